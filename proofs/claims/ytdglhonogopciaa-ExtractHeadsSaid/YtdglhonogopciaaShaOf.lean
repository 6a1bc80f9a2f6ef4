/- The contracts of sha.of, sha.Sum, Leaf and Pair. -/
import Derived.Test.YtdglhonogopciaaShaSum
namespace Go.Proofs.Ytdglhonogopciaa
open Go.RowKit

theorem Own.weaken {w : World} {B B' : Nat} {v : Value} {xs : List UInt8} (h : Own w B' v xs) (hB : B ≤ B') : Own w B v xs := by
  rcases h.parts with ⟨rfl, rfl⟩ | ⟨g, cap, rfl, h2, h3⟩
  · exact Own.nil _ _
  · exact Own.of_row h3 (Nat.le_trans hB h2)
/-- a slice that is hashed, among others -/
structure Pc where
  a : Option Addr
  m : Nat
  c : Nat
  ys : List UInt8
def pcat (ps : List Pc) : List UInt8 := (ps.map (·.ys)).flatten
theorem pcat_succ (ps : List Pc) (k : Nat) (h : k < ps.length) : pcat (ps.take (k + 1)) = pcat (ps.take k) ++ ps[k].ys := by
  unfold pcat; rw [List.take_succ_eq_append_getElem h, List.map_append, List.flatten_append]; congr 1; simp
theorem pcat_le (ps : List Pc) (k : Nat) : (pcat (ps.take k)).length ≤ (pcat ps).length := by
  conv => rhs; rw [← List.take_append_drop k ps]
  unfold pcat
  rw [List.map_append, List.flatten_append, List.length_append]; omega

set_option maxHeartbeats 1000000 in
set_option maxRecDepth 100000 in
theorem shaof_any (gb n cap : Nat) (ps : List Pc) (w : World) (hn : ps.length = n) (hn1 : n ≤ 100) (hgb : gb < w.heap.size)
    (hc : ∀ i (h : i < ps.length), w.cell? ⟨gb, i, none⟩ = some (.slice ps[i].a ps[i].m ps[i].c)) (hB : ∀ i (h : i < ps.length), Bs w ps[i].a ps[i].m ps[i].c ps[i].ys) (hl : (pcat ps).length ≤ 1000000) :
    Calls Try.prog 18 #[.slice (some ⟨gb, 0, none⟩) n cap] w fun e w' => ∃ v, e = .returned v ∧ Own w' w.heap.size v (sha (pcat ps)) ∧ Below w.heap.size w w' := by
  obtain ⟨H, hH⟩ : ∃ H, H = w.heap.size := ⟨_, rfl⟩
  rw [← hH] at hgb ⊢
  have HH := Lib.hid hH
  have HC := Lib.hid hc
  have HB := Lib.hid hB
  have HN := Lib.hid hn
  clear hc hB hn hH
  go_enter Try.func18, Try.ntmps18
  go_wp2_with fail
  refine (shanew_any w).mono ?_
  rintro e w1 ⟨p, rfl, hS1, hb1⟩
  rw [← HH.out] at hS1
  have hE1 : Ext H w w1 := by rw [HH.out]; exact (Ext.refl w).step hb1
  clear hb1
  go_upto_block 0 with fail
  go_cut [3] (fun s wr => s = .pointer (some ⟨p, 0, none⟩) ∧ Ext H w wr ∧ ∃ g, Strm wr H p g (pcat ps))
  case first =>
    go_wp2_with fail
    go_loopw [9] (fun i wr => ∃ k : Nat, k ≤ n ∧ i = .int .i64 k ∧ Ext H w wr ∧ ∃ g, Strm wr H p g (pcat (ps.take k))) (fun i _ => n - (intOf i).toNat)
    case atStart => exact ⟨0, by omega, rfl, hE1, none, hS1⟩
    case round =>
      obtain ⟨k, hk, rfl, hE, g, hS⟩ := hrel
      clear hS1 hE1
      by_cases hlt : k < n
      · have hkl : k < ps.length := by rw [HN.out]; exact hlt
        have hck := (hE.1.cell (p := ⟨gb, k, none⟩) hgb).trans (HC.out k hkl)
        have hBk := (HB.out k hkl).below (by rw [← HH.out]; exact hE.1)
        have hle := pcat_le ps (k + 1)
        rw [pcat_succ ps k hkl] at hle
        have hsu := pcat_succ ps k hkl
        have hna : 0 < ps[k].m → ∀ ad, ps[k].a = some ad → ¬ SS p g ad.block := by
          intro h0 ad had hs
          have hb0 := HB.out k hkl
          rcases hb0.2.2.2 with h | ⟨b, o, e, h5, _⟩
          · omega
          · rw [e] at had; injection had with had; subst had
            rcases hs with hs | hs
            · have := hS.1; have := HH.out; simp at hs; omega
            · subst hs; have h9 : H ≤ b := hS.row_lt.2; have := HH.out; omega
        have HW := Lib.hid (shawrite_any H p g (pcat (ps.take k)) ps[k].a ps[k].m ps[k].c ps[k].ys wr hS hBk hna (by rw [List.length_append] at hle; have := hBk.1; omega))
        rw [← hsu] at HW
        have hto := fun w' (hc : Chg (SS p g) wr w') => hE.upto (hS.belowOf hc)
        have HTO := Lib.hid hto
        clear hle hsu hna hBk hS hto hE
        generalize ps[k] = q at *
        have e1 : (0 : Int) ≤ (k : Int) := by omega
        have e2 : (k : Int) < (n : Int) := by omega
        go_wp2_with fail
        refine HW.out.mono ?_
        rintro e w2 ⟨rfl, g2, hS2, hC2, _⟩
        have hE2 := HTO.out _ hC2
        clear HW HTO hC2 hck
        go_wp2_with fail
        go_roundw
        case rel => exact ⟨k + 1, by omega, by go_num, hE2, g2, hS2⟩
        case measure => simp [intOf]; omega
      · obtain rfl : k = n := by omega
        have htk : ps.take k = ps := List.take_of_length_le (by rw [HN.out]; omega)
        rw [htk] at hS
        go_wp2_with fail
        go_meet
        exact ⟨rfl, hE, g, hS⟩
  case rest =>
    obtain ⟨rfl, hE, g, hS⟩ := hcut
    clear hS1 hE1
    go_wp2_with fail
    refine (shasum_st H p g (pcat ps) _ hS hl).mono ?_
    rintro e w3 ⟨v, rfl, hO, hb⟩
    have hE3 := hE.step hb
    have hO3 := hO.weaken hE.2
    clear hO hE hS
    go_wp2_with fail
    go_ret
    exact ⟨_, rfl, hO3, hE3.1⟩

set_option maxHeartbeats 1000000 in
theorem shasum_any (a : Option Addr) (len cap : Nat) (xs : List UInt8) (w : World) (h : Bs w a len cap xs) (hl : len ≤ 1000000) :
    Calls Try.prog 11 #[.slice a len cap] w fun e w' => ∃ v, e = .returned v ∧ Own w' w.heap.size v (sha xs) ∧ Below w.heap.size w w' := by
  have hO := shaof_any w.heap.size 1 1 [⟨a, len, cap, xs⟩] (w.alloc (.cells #[.slice a len cap] 23)) rfl (by omega) (lt_new w _)
    (fun i hi => by match i, hi with | 0, _ => rw [World.cell?_alloc_mark]; rfl)
    (fun i hi => by match i, hi with | 0, _ => exact h.alloc _) (by show (pcat [⟨a, len, cap, xs⟩]).length ≤ _; simp [pcat]; have := h.1; omega)
  rw [show pcat [⟨a, len, cap, xs⟩] = xs by simp [pcat]] at hO
  have HO := Lib.hid hO
  clear hO
  go_enter Try.func11, Try.ntmps11
  go_wp2_with fail
  refine HO.out.mono ?_
  rintro e w1 ⟨v, rfl, ho, hb⟩
  have hE := ((Ext.refl w).alloc (.cells #[.slice a len cap] 23)).step hb
  go_wp2_with fail
  go_ret
  exact ⟨_, rfl, ho.weaken (by simp), hE.1⟩

set_option maxHeartbeats 1000000 in
theorem shaleaf_any (a : Option Addr) (len cap : Nat) (xs : List UInt8) (w : World) (h : Bs w a len cap xs) (hl : len ≤ 900000) :
    Calls Try.prog 38 #[.slice a len cap] w fun e w' => ∃ v, e = .returned v ∧ Own w' w.heap.size v (sha (0 :: xs)) ∧ Below w.heap.size w w' := by
  have h0 := Bs.one w 0
  rw [show (((0 : UInt8).toNat : Nat) : Int) = 0 from rfl] at h0
  have hO := shaof_any (w.heap.size + 1) 2 2 [⟨some ⟨w.heap.size, 0, none⟩, 1, 1, [0]⟩, ⟨a, len, cap, xs⟩] ((w.alloc (.cells #[.int .u8 0] TB)).alloc (.cells #[.slice (some ⟨w.heap.size, 0, none⟩) 1 1, .slice a len cap] 23)) rfl (by omega) (by simp)
    (fun i hi => by
      have e : w.heap.size + 1 = (w.alloc (.cells #[.int .u8 0] TB)).heap.size := by simp
      rw [e]
      match i, hi with
      | 0, _ => rw [World.cell?_alloc_mark]; rfl
      | 1, _ => rw [World.cell?_alloc_mark]; rfl)
    (fun i hi => by
      match i, hi with
      | 0, _ => exact h0.alloc _
      | 1, _ => exact (h.alloc _).alloc _) (by simp [pcat]; have := h.1; omega)
  rw [show pcat [⟨some ⟨w.heap.size, 0, none⟩, 1, 1, [0]⟩, ⟨a, len, cap, xs⟩] = 0 :: xs by simp [pcat]] at hO
  have HO := Lib.hid hO
  clear hO h0
  go_enter Try.func38, Try.ntmps38
  go_wp2_with fail
  refine HO.out.mono ?_
  rintro e w1 ⟨v, rfl, ho, hb⟩
  have hE := (((Ext.refl w).alloc (.cells #[.int .u8 0] TB)).alloc (.cells #[.slice (some ⟨w.heap.size, 0, none⟩) 1 1, .slice a len cap] 23)).step hb
  go_wp2_with fail
  go_ret
  exact ⟨_, rfl, ho.weaken (by simp; omega), hE.1⟩

set_option maxHeartbeats 1000000 in
theorem shapair_any (a a' : Option Addr) (len cap len' cap' : Nat) (xs ys : List UInt8) (w : World) (h : Bs w a len cap xs) (h' : Bs w a' len' cap' ys) (hl : len + len' ≤ 900000) :
    Calls Try.prog 40 #[.slice a len cap, .slice a' len' cap'] w fun e w' => ∃ v, e = .returned v ∧ Own w' w.heap.size v (sha (1 :: (xs ++ ys))) ∧ Below w.heap.size w w' := by
  have h0 := Bs.one w 1
  rw [show (((1 : UInt8).toNat : Nat) : Int) = 1 from rfl] at h0
  have hO := shaof_any (w.heap.size + 1) 3 3 [⟨some ⟨w.heap.size, 0, none⟩, 1, 1, [1]⟩, ⟨a, len, cap, xs⟩, ⟨a', len', cap', ys⟩] ((w.alloc (.cells #[.int .u8 1] TB)).alloc (.cells #[.slice (some ⟨w.heap.size, 0, none⟩) 1 1, .slice a len cap, .slice a' len' cap'] 23)) rfl (by omega) (by simp)
    (fun i hi => by
      have e : w.heap.size + 1 = (w.alloc (.cells #[.int .u8 1] TB)).heap.size := by simp
      rw [e]
      match i, hi with
      | 0, _ => rw [World.cell?_alloc_mark]; rfl
      | 1, _ => rw [World.cell?_alloc_mark]; rfl
      | 2, _ => rw [World.cell?_alloc_mark]; rfl)
    (fun i hi => by
      match i, hi with
      | 0, _ => exact h0.alloc _
      | 1, _ => exact (h.alloc _).alloc _
      | 2, _ => exact (h'.alloc _).alloc _) (by simp [pcat]; have := h.1; have := h'.1; omega)
  rw [show pcat [⟨some ⟨w.heap.size, 0, none⟩, 1, 1, [1]⟩, ⟨a, len, cap, xs⟩, ⟨a', len', cap', ys⟩] = 1 :: (xs ++ ys) by simp [pcat]] at hO
  have HO := Lib.hid hO
  clear hO h0
  go_enter Try.func40, Try.ntmps40
  go_wp2_with fail
  refine HO.out.mono ?_
  rintro e w1 ⟨v, rfl, ho, hb⟩
  have hE := (((Ext.refl w).alloc (.cells #[.int .u8 1] TB)).alloc (.cells #[.slice (some ⟨w.heap.size, 0, none⟩) 1 1, .slice a len cap, .slice a' len' cap'] 23)).step hb
  go_wp2_with fail
  go_ret
  exact ⟨_, rfl, ho.weaken (by simp; omega), hE.1⟩
end Go.Proofs.Ytdglhonogopciaa
