/- The walk of permafrostlaw9.BmapGlues. -/
import Derived.Test.YtklckjmlifddjaaGlue
import Derived.Test.YtklckjmlifddjaaGlue2
import Derived.Test.YtklckjmlifddjaaAppL
import Derived.Test.YtklckjmlifddjaaCut
import Derived.Test.YtklckjmlifddjaaWithin
import Derived.Test.YtklckjmlifddjaaHeld
import Derived.Test.YtklckjmlifddjaaTools2
import Derived.Test.YtklckjmlifddjaaArg
import Derived.Deep.Cut
import Derived.Deep.DeepCutAuto
namespace Go.Proofs.Ytklckjmlifddjaa
open Go.RowKit

theorem blk_nblk (m : Nat) : blk (m : Int) = ((nblk m : Nat) : Int) := by
  unfold blk nblk
  split <;> omega
theorem flat_erase (ls : List (List UInt8)) (k : Nat) : (ls.take k ++ ls.drop (k + 1)).flatten.length ≤ ls.flatten.length := by
  conv => rhs; rw [← List.take_append_drop k ls]
  rw [List.flatten_append, List.flatten_append, List.length_append, List.length_append]
  have : (ls.drop (k + 1)).flatten.length ≤ (ls.drop k).flatten.length := by
    rw [show k + 1 = k + 1 from rfl, ← List.drop_drop]
    cases ls.drop k with
    | nil => simp
    | cons x xs => simp
  omega
theorem flat_set (ls : List (List UInt8)) (k : Nat) (hk : k < ls.length) (h : 1 ≤ (ls.getD k []).length) : (ls.set k ((ls.getD k []).drop 1)).flatten.length + 1 = ls.flatten.length := by
  have e1 : ls = ls.take k ++ ls.getD k [] :: ls.drop (k + 1) := by
    rw [List.getD_eq_getElem?_getD, List.getElem?_eq_getElem hk, Option.getD_some, List.getElem_cons_drop, List.take_append_drop]
  rw [List.set_eq_take_append_cons_drop, if_pos hk]
  conv => rhs; rw [e1]
  simp only [List.flatten_append, List.flatten_cons, List.length_append, List.length_drop]
  omega
/-- a row of one's own, a row within it turned to another -/
theorem OwnL.turned {w : World} {B N : Nat} {v : Value} {ls : List (List UInt8)} (h : OwnL w B v ls) (hN : ls.length = N) (h0 : 0 < N) : ∃ g cap, v = .slice (some ⟨g, 0, Option.none⟩) N cap ∧ N ≤ cap ∧ B ≤ g ∧ g < w.heap.size ∧
    ∀ k, k < N → ∃ a m c, w.cell? ⟨g, k, Option.none⟩ = some (.slice a m c) ∧ w.frozen? ⟨g, k, Option.none⟩ = false ∧ Bs w a m c (ls.getD k []) ∧ (0 < m → ∀ ad, a = some ad → ad.block ≠ g) ∧
      ∀ a' m' c' ys, Bs w a' m' c' ys → (0 < m' → ∀ ad, a' = some ad → ad.block ≠ g) → LL (w.setCell ⟨g, k, Option.none⟩ (.slice a' m' c')) (some ⟨g, 0, Option.none⟩) N cap (ls.set k ys) := by
  obtain ⟨vs, h1, h2, h3⟩ := h
  rcases h1.2 with ⟨_, h4⟩ | ⟨g, cap, cur, rfl, hg, hgb, hc1, hc2, hc3, hc4⟩
  · omega
  have hgl : g < w.heap.size := (Array.getElem?_eq_some_iff.1 hgb).1
  have hcell : ∀ j, j < ls.length → w.cell? ⟨g, j, Option.none⟩ = vs[j]? := fun j hj => by
    have e := congrArg (·[j]?) hc4
    simp only [List.getElem?_take] at e
    rw [if_pos (by omega)] at e
    simp only [World.cell?, hgb]
    rw [← Array.getElem?_toList]
    simpa using e
  refine ⟨g, cap, by rw [hN], by omega, hg, hgl, fun k hk => ?_⟩
  obtain ⟨a, m, c, h4, h5, h6⟩ := h3 k (by omega)
  have hck := (hcell k (by omega)).trans h4
  refine ⟨a, m, c, hck, by simp [World.frozen?, hgb], by rw [List.getD_eq_getElem?_getD, List.getElem?_eq_getElem (by omega)]; exact h5, fun hm ad had e => h6 hm ad had (by simp [Value.ownBlock, e]), fun a' m' c' ys hB hne => ?_⟩
  have hch : w.grownBy (w.setCell ⟨g, k, Option.none⟩ (.slice a' m' c')) (some g) := ⟨rfl, rfl, rfl, by simp [World.setCell], fun q _ hq => Below.heap_setCell _ _ _ q (fun e => hq (by rw [e]))⟩
  refine ⟨by simp [hN], by omega, hc2, .inr ⟨g, 0, rfl, by simpa [World.setCell] using hgl, fun i hi => ?_⟩⟩
  rw [List.length_set] at hi
  rw [Nat.zero_add]
  by_cases hik : i = k
  · subst hik
    refine ⟨a', m', c', World.cell?_setCell_same _ _ _ hck, ?_⟩
    rw [List.getElem_set_self]
    exact hB.grown hch (fun hm ad had e => hne hm ad had (by injection e with e; exact e.symm))
  · obtain ⟨a2, m2, c2, h7, h8, h9⟩ := h3 i hi
    refine ⟨a2, m2, c2, ?_, ?_⟩
    · have hx : (w.setCell ⟨g, k, Option.none⟩ (.slice a' m' c')).cell? ⟨g, i, Option.none⟩ = w.cell? ⟨g, i, Option.none⟩ := by
        rw [cells_at (cells_set (k := k) (y := .slice a' m' c') hgb) i, cells_at hgb i, Array.getElem?_setIfInBounds_ne (Ne.symm hik)]
      rw [hx, hcell i hi]; exact h7
    · rw [List.getElem_set_ne (Ne.symm hik)]
      exact h8.grown hch (fun hm ad had e => h9 hm ad had (by simp [Value.ownBlock]; injection e with e))

set_option maxRecDepth 100000 in
set_option maxHeartbeats 4000000 in
theorem bglues_any (ba ma : Option Addr) (bl bc ml mc : Nat) (bs ms : List UInt8) (which : Int) (w : World) (hB : Bs w ba bl bc bs) (hM : Bs w ma ml mc ms) :
    Calls Try.prog 3 #[.slice ba bl bc, .int .i64 which, .slice ma ml mc] w fun e w' => e = .returned (.bool true) ∧ Below w.heap.size w w' := by
  have hE := Ext.refl w
  obtain ⟨H, hH⟩ : ∃ H, H = w.heap.size := ⟨_, rfl⟩
  have HH := Lib.hid hH
  rw [← hH] at hE
  clear hH
  have hbl := hB.2.1
  have hml := hM.2.1
  go_enter Try.func3, Try.ntmps3
  go_wp2_with fail
  refine (cut_any 1000 ba bl bc w hbl (by omega)).mono ?_
  rintro e w1 ⟨rfl, rfl⟩
  replace hB := hB.take (k := min bl 1000) (Nat.min_le_left _ _)
  have hm : min bl 1000 ≤ 1000 := Nat.min_le_right _ _
  have hmc : min bl 1000 ≤ bc := by omega
  generalize min bl 1000 = m at *
  generalize bs.take m = xs at *
  have HXL := Lib.hid hB.1
  go_wp2_with fail
  refine (cutb_any ba m bc xs w hB (by omega)).mono ?_
  rintro e w2 ⟨v, rfl, hO, hb⟩
  obtain ⟨N, hN⟩ : ∃ N, N = nblk m := ⟨_, rfl⟩
  have hCl : (chks xs).length = N := by rw [chks_length, HXL.out, hN]
  have hNb : N ≤ 8 := by rw [hN]; unfold nblk; omega
  obtain ⟨la, lc, rfl, hL⟩ := hO.ll hCl
  have hlc := hL.2.1
  have hE := hE.step hb
  have hB := hB.below hb
  have hM := hM.below hb
  have HCL := Lib.hid hCl
  have HNN := Lib.hid hN
  have HBK := Lib.hid (fun w => blocks_any (m : Int) w (by omega))
  rw [blk_nblk, ← hN] at HBK
  clear hO hb hCl hN
  go_wp2_with fail
  refine (HBK.out _).mono ?_
  rintro e w3 ⟨rfl, rfl⟩
  clear HBK
  go_upto_block 0 with fail
  go_cut [8] (fun _ wx => wx = w2)
  case first =>
    go_wp2_with fail
    go_loopw [8] (fun i wr => ∃ k : Nat, k ≤ N ∧ i = .int .i64 k ∧ wr = w2) (fun i _ => N - (intOf i).toNat)
    case atStart => exact ⟨0, by omega, rfl, rfl⟩
    case round =>
      obtain ⟨k, hk, rfl, rfl⟩ := hrel
      by_cases hlt : k < N
      · obtain ⟨b, off, rfl, hbw, hc⟩ := hL.at (by omega)
        obtain ⟨a', mk, ck, hcell, hBk⟩ := hc k hlt
        have hml2 : mk = min 128 (m - 128 * k) := by
          rw [← hBk.1, chks_get _ _ (by rw [HXL.out, ← HNN.out]; exact hlt), chk_length, HXL.out]
        have hNN := HNN.out
        unfold nblk at hNN
        have hk1 : 1 ≤ mk := by omega
        have hk2 : mk ≤ 128 := by omega
        have hk3 : k + 1 < N → mk = 128 := fun h => by omega
        have HK3 := Lib.hid hk3
        clear hc hBk hml2 hNN hk3 hL hB hM hE
        have e1 : (0 : Int) ≤ (k : Int) := by omega
        have e2 : (k : Int) < (N : Int) := by omega
        by_cases hl : k + 1 < N
        · obtain rfl := HK3.out hl
          have e3 : ((k : Int) + 1) < (N : Int) := by omega
          go_wp2_with fail
          go_roundw
          case rel => exact ⟨k + 1, by omega, by go_num, trivial⟩
          case measure => simp [intOf]; omega
        · have e3 : ¬ ((k : Int) + 1) < (N : Int) := by omega
          have e4 : ¬ (128 : Int) < (mk : Int) := by omega
          have e5 : ¬ (mk : Int) < 1 := by omega
          go_wp2_with fail
          go_roundw
          case rel => exact ⟨k + 1, by omega, by go_num, trivial⟩
          case measure => simp [intOf]; omega
      · obtain rfl : k = N := by omega
        go_wp2_with fail
        go_meet
        exact rfl
  case rest =>
  subst hcut
  have hfl : (chks xs).flatten.length = m := by rw [chks_flat, HXL.out]
  have h128 : ∀ i, i + 1 < N → ((chks xs).getD i []).length = 128 := fun i hi => by
    have hNN := HNN.out
    unfold nblk at hNN
    rw [chks_get _ _ (by rw [HXL.out]; unfold nblk; omega), chk_length, HXL.out]; omega
  have h1k : ∀ i, i < N → 1 ≤ ((chks xs).getD i []).length := fun i hi => by
    have hNN := HNN.out
    unfold nblk at hNN
    rw [chks_get _ _ (by rw [HXL.out]; unfold nblk; omega), chk_length, HXL.out]; omega
  have hbk : (N : Int) = blk (m : Int) := by rw [blk_nblk, ← HNN.out]
  have HGO := Lib.hid (glue_ok N lc la (chks xs) m wc hL (by omega) hfl (by omega) hbk h128)
  rw [chks_flat] at HGO
  have HFL := Lib.hid hfl
  have H1K := Lib.hid h1k
  have HBK := Lib.hid hbk
  clear hfl h128 hbk h1k
  go_wp2_with fail
  refine HGO.out.mono ?_
  rintro e w3 ⟨v, rfl, ho, hb⟩
  obtain ⟨ga, gc, rfl, hG⟩ := ho.bsn HXL.out
  have hE := hE.step hb
  have hB := hB.below hb
  have hM := hM.below hb
  have hL := hL.below hb
  have r1 := run_string hG
  have r2 := run_string hB
  have z1 : ((strOf xs).toList == (strOf xs).toList) = true := by simp
  clear ho hb HGO hG
  go_upto_region 13 with fail
  clear r1 r2 z1
  -- one block more
  have hbA : Below w3.heap.size w3 (w3.alloc (.cells #[] TBS)) := (Below.refl _ _).alloc (Nat.le_refl _) _
  have HLA := Lib.hid (hL.below hbA)
  have HAP := Lib.hid (fun o (ho : ∀ k, o = some k → w3.heap.size ≤ k) => hL.apart hbA (o := o) ho)
  have HONE := Lib.hid (OwnL.none w3)
  go_wp2_with (at_builtin; refine wpList_append_ll_w (by rfl) _ _ rfl w3.heap.size _ [] rfl HONE.out la N lc (chks xs) rfl HLA.out (HAP.out _ (fun k hk => (HONE.out.lt k hk).1)) (by rw [List.length_nil]; omega) (by simp) ?_; intro v1 w4 hO1 hg1 hown1)
  rw [List.nil_append] at hO1
  have hb4 : Below w3.heap.size w3 w4 := hbA.grown hg1 (by simp) (fun k hk => (HONE.out.lt k hk).1)
  have hM4 := hM.below hb4
  have hO1v := hO1.lt
  have hap1 : 0 < min ml 128 → ∀ x, ma = some x → v1.ownBlock ≠ some x.block := fun h0 x hx e => by
    have h1 := hM.blk' (by omega) x hx
    have h2 := (hO1v _ e).1
    omega
  have HB4 := Lib.hid hb4
  have HAP1 := Lib.hid hap1
  have HO1 := Lib.hid hO1
  have HM4 := Lib.hid hM4
  clear hg1 hown1 hO1 hM4 hap1 hb4 HLA HAP HONE hbA hO1v
  refine (cut_any 128 ma ml mc _ hml (by omega)).mono ?_
  rintro e w5 ⟨rfl, rfl⟩
  have hmn : min ml 128 ≤ mc := by omega
  go_wp2_with (at_builtin; refine wpList_append_row_w (by rfl) _ _ rfl rfl w3.heap.size v1 (chks xs) rfl HO1.out ma (min ml 128) mc _ (HM4.out.take (k := min ml 128) (Nat.min_le_left _ _)) HAP1.out (by rw [HCL.out]; omega) HB4.out.size ?_; intro v2 w6 hO2 hg2; obtain ⟨a2, c2, rfl, hL2⟩ := hO2.ll (n := N + 1) (by rw [List.length_append, HCL.out]; rfl))
  have hb6 : Below w3.heap.size w3 w6 := (HB4.out.alloc HB4.out.size _).grown hg2 (by have := HB4.out.size; simp; omega) (fun k hk => (HO1.out.lt k hk).1)
  have hfl2 : (chks xs ++ [ms.take (min ml 128)]).flatten.length ≤ 1000000 := by
    rw [List.flatten_append, List.length_append, HFL.out]
    simp; omega
  have hE := hE.step hb6
  have hB := hB.below hb6
  have hL := hL.below hb6
  have HL2 := Lib.hid (glue_no (N + 1) c2 a2 _ (m : Int) w6 hL2 (by omega) hfl2 (by omega) (.inl (by rw [← HBK.out]; omega)))
  clear hO2 hg2 hb6 HB4 HAP1 HO1 HM4 hL2 hfl2 hM
  refine HL2.out.mono ?_
  rintro e w7 ⟨⟨vz, rfl⟩, hb⟩
  have hE := hE.step hb
  have hB := hB.below hb
  have hL := hL.below hb
  have HL3 := Lib.hid (glue_no N lc la _ ((m : Int) + 1) w7 hL (by omega) (by rw [HFL.out]; omega) (by omega) (.inr (by rw [HFL.out]; omega)))
  clear hb HL2
  go_wp2_with fail
  refine HL3.out.mono ?_
  rintro e w8 ⟨⟨vy, rfl⟩, hb⟩
  have hE := hE.step hb
  have hB := hB.below hb
  have hL := hL.below hb
  clear hb HL3
  by_cases hN0 : N = 0
  · subst hN0
    clear hL
    go_wp2_with fail
    refine (bmap_known _).mono ?_
    rintro e w9 ⟨rfl, rfl⟩
    go_wp2_with fail
    go_ret
    exact ⟨rfl, by rw [← HH.out]; exact hE.1⟩
  have hNp : 0 < N := by omega
  obtain ⟨lb, lo, rfl, _, _⟩ := hL.at hNp
  have hNi : (0 : Int) < (N : Int) := by omega
  have i1 : IntKind.i64.wrap ((N : Int) - 1) = (N : Int) - 1 := IntWalk.i64_in _ (by omega)
  have hkb := within_bd which 0 ((N : Int) - 1) (by omega)
  have HWk := Lib.hid (fun w => within_any which 0 ((N : Int) - 1) w (by omega) (by omega) (by omega))
  generalize within which 0 ((N : Int) - 1) = K' at *
  obtain ⟨k, rfl⟩ : ∃ k : Nat, K' = (k : Int) := ⟨K'.toNat, by omega⟩
  have hkN : k < N := by omega
  clear hkb hN0
  go_wp2_with fail
  refine (HWk.out _).mono ?_
  rintro e w9 ⟨rfl, rfl⟩
  clear HWk
  -- a copy, one block of which is cut shorter
  have hbA : Below w8.heap.size w8 (w8.alloc (.cells #[] TBS)) := (Below.refl _ _).alloc (Nat.le_refl _) _
  have HLA := Lib.hid (hL.below hbA)
  have HAP := Lib.hid (fun o (ho : ∀ k, o = some k → w8.heap.size ≤ k) => hL.apart hbA (o := o) ho)
  have HONE := Lib.hid (OwnL.none w8)
  have HB8 := Lib.hid hB
  have HE8 := Lib.hid hE.2
  go_upto_region 20 with (at_builtin; refine wpList_append_ll_w (by rfl) _ _ rfl w8.heap.size _ [] rfl HONE.out (some ⟨lb, lo, none⟩) N lc (chks xs) rfl HLA.out (HAP.out _ (fun k hk => (HONE.out.lt k hk).1)) (by rw [List.length_nil]; omega) (by simp) ?_; intro v3 w10 hO3 hg3 hown3)
  rw [List.nil_append] at hO3
  have hb10 : Below w8.heap.size w8 w10 := hbA.grown hg3 (by simp) (fun k hk => (HONE.out.lt k hk).1)
  have hE := hE.step hb10
  have hB := hB.below hb10
  have hL10 := hL.below hb10
  obtain ⟨g, gcap, rfl, hgN, hgB, hgl, hset⟩ := hO3.turned HCL.out hNp
  obtain ⟨ka, km, kc, hkc, hkf, hkB, hka, hkset⟩ := hset k hkN
  have hkm1 : 1 ≤ km := by rw [← hkB.1]; exact H1K.out k hkN
  have hkd := hkB.drop (k := 1) hkm1
  obtain ⟨kb, ko, rfl⟩ : ∃ kb ko, ka = some ⟨kb, ko, none⟩ := by
    rcases hkB.2.2.2 with h | ⟨b, o, h, _⟩
    · omega
    · exact ⟨b, o, h⟩
  obtain ⟨ad, had⟩ : ∃ ad, (if kc = 1 then some (⟨kb, ko, none⟩ : Addr) else some ⟨kb, ko + 1, none⟩) = ad := ⟨_, rfl⟩
  rw [show (if kc = 1 then some (⟨kb, ko, none⟩ : Addr) else (some (⟨kb, ko, none⟩ : Addr)).map (·.add 1)) = ad from by rw [← had]; rfl] at hkd
  have hadb : 0 < km - 1 → ∀ x, ad = some x → x.block ≠ g := fun h0 x hx e => by
    rw [← had] at hx
    have hkg := hka (by omega) ⟨kb, ko, none⟩ rfl
    split at hx
    · injection hx with hx; rw [← hx] at e; exact hkg e
    · injection hx with hx; rw [← hx] at e; exact hkg e
  have hLS := hkset ad (km - 1) (kc - 1) _ hkd hadb
  have hkcc := hkB.2.1
  have hC10 : Chg (fun q => q = g) w10 (w10.setCell ⟨g, k, none⟩ (.slice ad (km - 1) (kc - 1))) := (Chg.refl (fun q => q = g) w10).setCell (p := ⟨g, k, none⟩) (fun _ => rfl) _
  have hg8 : w8.heap.size ≤ g := hgB
  have hL8 : LL (w10.setCell ⟨g, k, none⟩ (.slice ad (km - 1) (kc - 1))) (some ⟨lb, lo, none⟩) N lc (chks xs) := hL.below (hb10.trans (hC10.below (Nat.le_trans hb10.size (Nat.le_refl _)) (fun q _ hq => by omega)))
  have hB8 : Bs (w10.setCell ⟨g, k, none⟩ (.slice ad (km - 1) (kc - 1))) ba m bc xs := (HB8.out).below (hb10.trans (hC10.below (Nat.le_trans hb10.size (Nat.le_refl _)) (fun q _ hq => by omega)))
  have hE8 : Ext H w (w10.setCell ⟨g, k, none⟩ (.slice ad (km - 1) (kc - 1))) := hE.setCell (p := ⟨g, k, none⟩) (by have := HE8.out; show H ≤ g; omega) _
  have HALL := Lib.hid (And.intro hLS (And.intro hL8 (And.intro hB8 hE8)))
  clear hO3 hg3 hown3 hset hkset hkB hka hkd hadb hLS hC10 hL8 hB8 hE8 hb10 hbA HLA HAP HONE hL hL10 hB hE
  have hk0 : (0 : Int) ≤ (k : Int) := by omega
  have hk1 : (k : Int) < (N : Int) := by omega
  go_upto_region 21 with fail
  obtain ⟨hLS, hL, hB, hE⟩ := HALL.out
  generalize w10.setCell ⟨g, k, none⟩ (.slice ad (km - 1) (kc - 1)) = wk at *
  have hfs : ((chks xs).set k (((chks xs).getD k []).drop 1)).flatten.length + 1 = m := by rw [flat_set _ k (by rw [HCL.out]; exact hkN) (H1K.out k hkN), HFL.out]
  have HG5 := Lib.hid (glue_no N gcap _ _ (m : Int) wk hLS (by omega) (by omega) (by omega) (.inr (by omega)))
  clear hfs hLS HALL had hkc hkf hkcc
  go_wp2_with fail
  refine HG5.out.mono ?_
  rintro e w11 ⟨⟨vx, rfl⟩, hb⟩
  have hE := hE.step hb
  have hB := hB.below hb
  have hL := hL.below hb
  clear hb HG5
  obtain ⟨wk, hwk⟩ : ∃ wk, wk = w11 := ⟨_, rfl⟩
  go_upto_region 22 with fail
  rw [← hwk] at hE hB hL ⊢
  clear hwk
  have i2 : IntKind.i64.wrap ((k : Int) + 1) = ((k + 1 : Nat) : Int) := by rw [IntWalk.i64_in _ (by omega)]; omega
  have hk2 : k ≤ lc := by omega
  have hk3 : k + 1 ≤ N := by omega
  have hk4 : k + 1 ≤ lc := by omega
  have hLt := hL.take (k := k) (by omega)
  have hLd := hL.drop (k := k + 1) (by omega)
  obtain ⟨ad2, had2⟩ : ∃ ad2, (if lc = k + 1 then some (⟨lb, lo, none⟩ : Addr) else some ⟨lb, lo + (k + 1), none⟩) = ad2 := ⟨_, rfl⟩
  rw [show (if lc = k + 1 then some (⟨lb, lo, none⟩ : Addr) else (some (⟨lb, lo, none⟩ : Addr)).map (·.add (k + 1))) = ad2 from by rw [← had2]; simp [Addr.add]] at hLd
  have hk5 : (0 : Int) ≤ (k : Int) + 1 := by omega
  have hk6 : (k : Int) + 1 ≤ (N : Int) := by omega
  have HF9 := Lib.hid (show ((chks xs).take k ++ (chks xs).drop (k + 1)).flatten.length ≤ 1000000 from Nat.le_trans (flat_erase _ k) (by rw [HFL.out]; omega))
  have HN9 := Lib.hid (show ¬ ((N - 1 : Nat) : Int) = blk (m : Int) by rw [← HBK.out]; omega)
  clear hL hB
  obtain ⟨wd, hwd⟩ : ∃ wd, wd = wk.drew := ⟨_, rfl⟩
  have hb : Below wk.heap.size wk wd := by rw [hwd]; exact (Below.refl _ _).drew
  have hLt := hLt.below hb
  have hLd := hLd.below hb
  have hE := hE.step hb
  clear hb
  refine held_start (by kernel_rfl) (fun hHeld => ?_)
  rw [← hwd] at hHeld ⊢
  clear hwd
  refine held_take (i := 1) (v := ?_) 137 rfl (by kernel_rfl) (by kernel_rfl) (by kernel_rfl) (fun _ _ _ h => h) rfl (by assumption) (Or.inl ⟨by rfl, ?_⟩) ?_
  rotate_left
  · intro w hSw; go_simp; (try with_reducible rfl)
  simp only [List.set_cons_zero, List.set_cons_succ]
  refine held_take (i := 2) (v := ?_) 138 rfl (by kernel_rfl) (by kernel_rfl) (by kernel_rfl) (fun _ _ _ h => h) rfl (by assumption) (Or.inl ⟨by rfl, ?_⟩) ?_
  rotate_left
  · intro w hSw; go_simp; (try with_reducible rfl)
  simp only [List.set_cons_zero, List.set_cons_succ]
  refine held_take (i := 3) (v := ?_) 139 rfl (by kernel_rfl) (by kernel_rfl) (by kernel_rfl) (fun _ _ _ h => h) rfl (by assumption) (Or.inl ⟨by rfl, ?_⟩) ?_
  rotate_left
  · intro w hSw; go_simp; (try with_reducible rfl)
  simp only [List.set_cons_zero, List.set_cons_succ]
  refine held_take (i := 5) (v := ?_) 141 rfl (by kernel_rfl) (by kernel_rfl) (by kernel_rfl) (fun _ _ _ h => h) rfl (by assumption) (Or.inl ⟨by rfl, ?_⟩) ?_
  rotate_left
  · intro w hSw; go_simp; (try with_reducible rfl)
  simp only [List.set_cons_zero, List.set_cons_succ]
  refine held_take (i := 6) (v := ?_) 142 rfl (by kernel_rfl) (by kernel_rfl) (by kernel_rfl) (fun _ _ _ h => h) rfl (by assumption) (Or.inl ⟨by rfl, ?_⟩) ?_
  rotate_left
  · intro w hSw; go_simp; (try with_reducible rfl)
  simp only [List.set_cons_zero, List.set_cons_succ]
  refine held_take (i := 7) (v := ?_) 143 rfl (by kernel_rfl) (by kernel_rfl) (by kernel_rfl) (fun _ _ _ h => h) rfl (by assumption) (Or.inl ⟨by rfl, ?_⟩) ?_
  rotate_left
  · intro w hSw; go_simp; (try with_reducible rfl)
  simp only [List.set_cons_zero, List.set_cons_succ]
  refine held_take (i := 8) (v := ?_) 144 rfl (by kernel_rfl) (by kernel_rfl) (by kernel_rfl) (fun _ _ _ h => h) rfl (by assumption) (Or.inl ⟨by rfl, ?_⟩) ?_
  rotate_left
  · intro w hSw; go_simp; (try with_reducible rfl)
  simp only [List.set_cons_zero, List.set_cons_succ]
  refine held_take (i := 10) (v := ?_) 146 rfl (by kernel_rfl) (by kernel_rfl) (by kernel_rfl) (fun _ _ _ h => h) rfl (by assumption) (Or.inl ⟨by rfl, ?_⟩) ?_
  rotate_left
  · intro w hSw; go_simp; (try with_reducible rfl)
  simp only [List.set_cons_zero, List.set_cons_succ]
  refine held_take (i := 11) (v := ?_) 147 rfl (by kernel_rfl) (by kernel_rfl) (by kernel_rfl) (fun _ _ _ h => h) rfl (by assumption) (Or.inl ⟨by rfl, ?_⟩) ?_
  rotate_left
  · intro w hSw; go_simp; (try with_reducible rfl)
  simp only [List.set_cons_zero, List.set_cons_succ]
  refine wpAnyH_ready (rs := [0]) (by kernel_rfl) (by simp) ?_
  refine (AllReadyH.cons rfl (fun K hK => ?_) AllReadyH.nil)
  go_simp
  have hb : HB wd (wd.alloc (.cells #[] TBS)) := (HB.refl _).alloc _
  have hbt := HB.trans hHeld hb
  have hO0 := (OwnL.none wd).weaken (B := wd.heap.size) (Below.size hHeld)
  generalize wd.alloc (.cells #[] TBS) = w1x at *
  refine hK.out _ _ hbt (fun _ => ?_)
  clear hK hHeld K
  have hHeld := hbt
  clear hb hbt
  refine wpAnyH_ready (rs := [4]) (by kernel_rfl) (by simp) ?_
  refine (AllReadyH.cons rfl (fun K hK => ?_) AllReadyH.nil)
  refine step_append_ll (by rfl) (.tmp 136) (.tmp 139) rfl wd.heap.size _ [] ?_ hO0 (some ⟨lb, lo, none⟩) k lc ((chks xs).take k) ?_ (hLt.below hHeld) (hLt.apart hHeld (fun k hk => (hO0.lt k hk).1)) (by rw [List.length_nil]; omega) (Below.size hHeld) (fun v4 w2x hO4 hg _ => ?_)
  rfl
  rfl
  have hbt : HB wd w2x := Below.grown hHeld hg (Below.size hHeld) (fun k hk => (hO0.lt k hk).1)
  rw [List.nil_append] at hO4
  clear hg
  go_wp2_with fail
  refine hK.out _ _ hbt (fun _ => ?_)
  clear hK hHeld K
  have hHeld := hbt
  clear hbt
  refine wpAnyH_ready (rs := [9]) (by kernel_rfl) (by simp) ?_
  refine (AllReadyH.cons rfl (fun K hK => ?_) AllReadyH.nil)
  refine step_append_ll (by rfl) (.tmp 140) (.tmp 144) rfl wd.heap.size _ _ ?_ hO4 ad2 (N - (k + 1)) (lc - (k + 1)) ((chks xs).drop (k + 1)) ?_ (hLd.below hHeld) (hLd.apart hHeld (fun k hk => (hO4.lt k hk).1)) (by rw [List.length_take, HCL.out]; omega) (Below.size hHeld) (fun v9 w3x hO9 hg _ => ?_)
  rfl
  rfl
  have hbt : HB wd w3x := Below.grown hHeld hg (Below.size hHeld) (fun k hk => (hO4.lt k hk).1)
  obtain ⟨a9, c9, rfl, hL9⟩ := hO9.ll (n := N - 1) (by simp [HCL.out]; omega)
  clear hg
  go_wp2_with fail
  refine hK.out _ _ hbt (fun _ => ?_)
  clear hK hHeld K
  have hHeld := hbt
  clear hbt
  refine wpAnyH_ready (rs := [12]) (by kernel_rfl) (by simp) ?_
  refine (AllReadyH.cons rfl (fun K hK => ?_) AllReadyH.nil)
  go_simp
  refine (glue_no (N - 1) c9 a9 _ (m : Int) _ hL9 (by omega) HF9.out (by omega) (.inl HN9.out)).mono ?_
  rintro e w4x ⟨⟨vz, rfl⟩, hb⟩
  have hbt := HB.trans hHeld hb
  go_wp2_with fail
  refine hK.out _ _ hbt (fun _ => ?_)
  clear hK hHeld K
  have hHeld := hbt
  clear hb hbt
  refine held_take (i := 13) (v := ?_) 135 rfl (by kernel_rfl) (by kernel_rfl) (by kernel_rfl) (fun _ _ _ h => h) rfl (by assumption) (Or.inl ⟨by rfl, ?_⟩) ?_
  rotate_left
  · intro w hSw; go_simp; (try with_reducible rfl)
  simp only [List.set_cons_zero, List.set_cons_succ]
  refine held_take (i := 14) (v := ?_) 149 rfl (by kernel_rfl) (by kernel_rfl) (by kernel_rfl) (fun _ _ _ h => h) rfl (by assumption) (Or.inl ⟨by rfl, ?_⟩) ?_
  rotate_left
  · intro w hSw; go_simp; (try with_reducible rfl)
  simp only [List.set_cons_zero, List.set_cons_succ]
  refine held_take (i := 15) (v := ?_) 150 rfl (by kernel_rfl) (by kernel_rfl) (by kernel_rfl) (fun _ _ _ h => h) rfl (by assumption) (Or.inl ⟨by rfl, ?_⟩) ?_
  rotate_left
  · intro w hSw; go_simp; (try with_reducible rfl)
  simp only [List.set_cons_zero, List.set_cons_succ]
  refine held_take (i := 16) (v := ?_) 19 rfl (by kernel_rfl) (by kernel_rfl) (by kernel_rfl) (fun _ _ _ h => h) rfl (by assumption) (Or.inl ⟨by rfl, ?_⟩) ?_
  rotate_left
  · intro w hSw; go_simp; (try with_reducible rfl)
  simp only [List.set_cons_zero, List.set_cons_succ]
  refine held_take (i := 17) (v := ?_) 20 rfl (by kernel_rfl) (by kernel_rfl) (by kernel_rfl) (fun _ _ _ h => h) rfl (by assumption) (Or.inl ⟨by rfl, ?_⟩) ?_
  rotate_left
  · intro w hSw; go_simp; (try with_reducible rfl)
  simp only [List.set_cons_zero, List.set_cons_succ]
  refine wpAnyH_done (by kernel_rfl) ?_ _
  have hE := hE.step hHeld
  clear had2 hLt hLd hO9 hL9 hO4
  go_wp2_with fail
  refine (bmap_known _).mono ?_
  rintro e w12 ⟨rfl, rfl⟩
  go_wp2_with fail
  go_ret
  exact ⟨rfl, by rw [← HH.out]; exact hE.1⟩
theorem BmapGlues_walk (v0 v1 v2 : Value) (w : World) (h0 : Arg Try.prog w 22 v0) (h1 : Arg Try.prog w 3 v1) (h2 : Arg Try.prog w 22 v2) :
    Calls Try.prog 3 #[v0, v1, v2] w fun e w' => e = .returned (.bool true) ∧ Below w.heap.size w w' := by
  obtain ⟨a, l, c, xs, rfl, hB⟩ := h0.bytes Try.underlying22 Try.underlying5 (by kernel_rfl)
  obtain ⟨n, rfl, _⟩ := h1.int Try.underlying3
  obtain ⟨a', l', c', ys, rfl, hM⟩ := h2.bytes Try.underlying22 Try.underlying5 (by kernel_rfl)
  exact bglues_any a a' l c l' c' xs ys n w hB hM
end Go.Proofs.Ytklckjmlifddjaa
