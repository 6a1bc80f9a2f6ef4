/- The walk of FaultUnwraps. -/
import Derived.Test.YtmbkcohkmedpgaaDoorFtCh
import Derived.Test.YtmbkcohkmedpgaaDoorWithin
namespace Go.Proofs.YtmbkcohkmedpgaaDoor
open Go.RowKit

set_option maxHeartbeats 4000000 in
set_option maxRecDepth 100000 in
theorem funwraps_any (a : Option Addr) (len cap : Nat) (xs : List (List UInt8 × List UInt8)) (code : Int) (w : World) (hG : Gl w) (hLk : Links w a len cap xs) :
    Calls Tryd.prog 3 #[.slice a len cap, .int .i64 code] w fun e w' => e = .returned (.bool true) ∧ Below w.heap.size w w' := by
  have hwb := within_bd code 1 300 (by decide)
  have HWi := Lib.hid (fun w => within_any code 1 300 w (by decide) (by decide) (by decide))
  generalize within code 1 300 = C at *
  obtain ⟨c, rfl⟩ : ∃ c : Nat, C = (c : Int) := ⟨C.toNat, by omega⟩
  by_cases h : len ≤ 30
  · obtain ⟨m, hme⟩ : ∃ m, m = len := ⟨_, rfl⟩
    have hm : len ≤ 30 := h
    have hY := hLk
    rw [← hme] at hY hm ⊢
    obtain ⟨ys, hys⟩ : ∃ ys, ys = xs := ⟨_, rfl⟩
    rw [← hys] at hY
    clear hme hys hLk h
    have hm2 : ¬ (30 : Int) < (m : Int) := by omega
    have hmw : IntKind.i64.wrap ((m : Int) - 1) = (m : Int) - 1 := IntWalk.i64_in _ (by omega)
    have HLK := Lib.hid hY
    have HG := Lib.hid hG
    have hyl := hY.1
    clear hY hG
    go_enter Tryd.func3, Tryd.ntmps3
    go_wp2_with fail
    refine (HWi.out w).mono ?_
    rintro e w0 ⟨rfl, rfl⟩
    clear HWi
    go_wp2_with fail
    refine (chain_ok a m cap ys (c : Int) w HG.out HLK.out (by omega) (by omega)).mono ?_
    rintro e w1 ⟨va, rfl, hA, hb⟩
    have HP := Lib.hid (And.intro ((Ext.refl w).step hb) (And.intro (HG.out.below hb) hA))
    clear hb hA hyl
    go_wp2_with fail
    go_loopw [5, 6] (fun v i wx => ∃ j : Nat, j ≤ m ∧ i = .int .i64 ((j : Int) - 1) ∧ Er wx (.errno (c : Int)) (chn (ys.take j)) v ∧ Ext w.heap.size w wx) (fun _ i _ => (intOf i + 1).toNat)
    case atStart => exact ⟨m, Nat.le_refl _, rfl, by rw [List.take_of_length_le (by rw [HLK.out.1]; exact Nat.le_refl _)]; exact HP.out.2.2, HP.out.1⟩
    case round =>
      obtain ⟨j, hj, rfl, hEr, hE⟩ := hrel
      clear HP
      by_cases hj0 : 0 < j
      · obtain ⟨k, rfl⟩ : ∃ k, j = k + 1 := ⟨j - 1, by omega⟩
        have hjk : ((k + 1 : Nat) : Int) - 1 = (k : Int) := by omega
        rw [hjk]
        have hk0 : (0 : Int) ≤ (k : Int) := by omega
        have hkM : (k : Int) < (m : Int) := by omega
        have hkl : k < ys.length := by rw [HLK.out.1]; omega
        have hkm : min k ys.length = k := by omega
        have hkw : IntKind.i64.wrap ((k : Int) + 1) = ((k + 1 : Nat) : Int) := by rw [IntWalk.i64_in _ (by omega)]; omega
        have hkw2 : IntKind.i64.wrap ((k : Int) - 1) = (k : Int) - 1 := IntWalk.i64_in _ (by omega)
        have hkk : (((k + 1 : Nat) : Int) != ((k + 1 : Nat) : Int)) = false := by simp
        rw [chn_snoc ys k hkl] at hEr
        obtain ⟨b, inner, rfl, hbk, hi⟩ := hEr
        simp only [hx] at hbk
        obtain ⟨bl, off, rfl⟩ := HLK.out.at (by omega)
        have hErA : Er wr (.errno (c : Int)) (hx ys[k] :: chn (ys.take k)) (.iface 27 (.pointer (some ⟨b, 0, none⟩))) := ⟨b, inner, rfl, hbk, hi⟩
        have hGr := HG.out.below hE.1
        have hb1 := (Below.refl wr.heap.size wr).alloc (Nat.le_refl _) (.cells #[.pointer none] 27)
        have ht1 : (wr.alloc (.cells #[.pointer none] 27)).heap[wr.heap.size]? = some (.cells #[.pointer none] 27 (0, 0)) := heap_alloc_new wr _
        have hSz := hE.2
        obtain ⟨t, hte⟩ : ∃ t, t = wr.heap.size := ⟨_, rfl⟩
        have hG0 := hGr.lt
        rw [← hte] at ht1 hSz hG0
        have HB1 := Lib.hid (And.intro hb1 (And.intro ht1 (And.intro hE (And.intro hGr (And.intro hErA (And.intro hbk hi))))))
        have HTE := Lib.hid hte
        clear hb1 ht1 hE hGr hErA hbk hi hte hjk hj0
        go_upto_region 9 with fail
        rw [← HTE.out]
        obtain ⟨hb1, ht1, hE, hGr, hErA, hbk, hi⟩ := HB1.out
        clear HB1
        obtain ⟨wd, hwd⟩ : ∃ wd, wd = (wr.alloc (.cells #[.pointer none] 27)).drew := ⟨_, rfl⟩
        have hbD : Below wr.heap.size wr wd := by rw [hwd]; exact hb1.drew
        have htd : wd.heap[t]? = some (.cells #[.pointer none] 27 (0, 0)) := by rw [hwd]; exact ht1
        have hEd := hE.step hbD
        have hGd := hGr.below hbD
        have hErd := hErA.below hbD
        have hBd := (hbD.block b (lt_of_heap hbk)).trans hbk
        have HI := Lib.hid (hi.below hbD)
        clear hb1 ht1 hE hGr hErA hbk hi hbD
        refine wp_region_held_drew (S := fun _ => True) (by kernel_rfl) trivial (fun hHeld => ?_)
        rw [← hwd]
        clear hwd
        have HC := Lib.hid (As27_from 27 (.pointer (some ⟨b, 0, none⟩)) t (some (.pointer (some ⟨b, 0, none⟩))) (.pointer none) wd hGd htd (fun W a hb ha ht2 => (as27_hit b t a (.pointer none) W ha ht2).mono fun e w' h => h))
        refine held_take (i := 0) (v := ?_) 27 rfl (by kernel_rfl) (by kernel_rfl) (by kernel_rfl) (fun _ _ _ h => h) rfl (by assumption) (Or.inl ⟨by rfl, ?_⟩) ?_
        rotate_left
        · intro w hSw; go_simp; (try with_reducible rfl)
        simp only [List.set_cons_zero, List.set_cons_succ]
        refine held_take (i := 1) (v := ?_) 28 rfl (by kernel_rfl) (by kernel_rfl) (by kernel_rfl) (fun _ _ _ h => h) rfl (by assumption) (Or.inl ⟨by rfl, ?_⟩) ?_
        rotate_left
        · intro w hSw; go_simp; (try with_reducible rfl)
        simp only [List.set_cons_zero, List.set_cons_succ]
        refine wpAnyH_ready (rs := [2]) (by kernel_rfl) (by simp) ?_
        refine (AllReadyH.cons rfl (fun K hK => ?_) AllReadyH.nil)
        go_simp
        refine (HC.out).mono ?_
        rintro e w1x ⟨rfl, hc2, ht2⟩
        have hBk : AtB w1x b _ := blk_hit (by decide) htd hc2 hBd
        have hTt : AtB w1x t (.cells #[.pointer (some ⟨b, 0, none⟩)] 27 (0, 0)) := ht2
        have hE := hEd.hop (hc2.below hEd.2 (fun q hq h => by have h' : q = t := h; omega))
        have hLk := HLK.out.below hE.1
        have hEr := hErd.hit (by decide) htd hc2
        have hG := hGd.chg hc2 (by omega)
        clear hc2 ht2 hBd hEd hErd htd hGd
        go_wp2_with fail
        refine hK.out _ _ trivial (fun _ => ?_)
        refine wpAnyH_mono (S' := HB w1x) (fun _ _ => trivial) _ _ _ _ ?_
        have hHeld2 : HB w1x w1x := HB.refl _
        clear hK hHeld K
        have hHeld := hHeld2
        clear hHeld2
        refine held_take (i := 3) (v := ?_) 30 rfl (by kernel_rfl) (by kernel_rfl) (by kernel_rfl) (fun _ _ _ h => h) rfl (by assumption) (Or.inl ⟨by rfl, ?_⟩) ?_
        rotate_left
        · intro w hSw; go_simp; (try with_reducible rfl)
        simp only [List.set_cons_zero, List.set_cons_succ]
        refine held_take (i := 4) (v := ?_) 31 rfl (by kernel_rfl) (by kernel_rfl) (by kernel_rfl) (fun _ _ _ h => h) rfl (by assumption) (Or.inl ⟨by rfl, ?_⟩) ?_
        rotate_left
        · intro w hSw; go_simp; (try with_reducible rfl)
        simp only [List.set_cons_zero, List.set_cons_succ]
        refine held_take (i := 5) (v := ?_) 32 rfl (by kernel_rfl) (by kernel_rfl) (by kernel_rfl) (fun _ _ _ h => h) rfl (by assumption) (Or.inl ⟨by rfl, ?_⟩) ?_
        rotate_left
        · intro w hSw; have q0 := cells_at (hTt.below hSw) 0; simp only [List.getElem?_toArray, List.getElem?_cons_zero] at q0; go_simp; (try with_reducible rfl)
        simp only [List.set_cons_zero, List.set_cons_succ]
        refine held_take (i := 6) (v := ?_) 33 rfl (by kernel_rfl) (by kernel_rfl) (by kernel_rfl) (fun _ _ _ h => h) rfl (by assumption) (Or.inl ⟨by rfl, ?_⟩) ?_
        rotate_left
        · intro w hSw; go_simp; (try with_reducible rfl)
        simp only [List.set_cons_zero, List.set_cons_succ]
        refine held_take (i := 7) (v := ?_) 34 rfl (by kernel_rfl) (by kernel_rfl) (by kernel_rfl) (fun _ _ _ h => h) rfl (by assumption) (Or.inl ⟨by rfl, ?_⟩) ?_
        rotate_left
        · intro w hSw; go_simp; (try with_reducible rfl)
        simp only [List.set_cons_zero, List.set_cons_succ]
        refine held_take (i := 8) (v := ?_) 35 rfl (by kernel_rfl) (by kernel_rfl) (by kernel_rfl) (fun _ _ _ h => h) rfl (by assumption) (Or.inl ⟨by rfl, ?_⟩) ?_
        rotate_left
        · intro w hSw; go_simp; (try with_reducible rfl)
        simp only [List.set_cons_zero, List.set_cons_succ]
        refine held_take (i := 9) (v := ?_) 36 rfl (by kernel_rfl) (by kernel_rfl) (by kernel_rfl) (fun _ _ _ h => h) rfl (by assumption) (Or.inl ⟨by rfl, ?_⟩) ?_
        rotate_left
        · intro w hSw; have q0 := cells_at (hTt.below hSw) 0; simp only [List.getElem?_toArray, List.getElem?_cons_zero] at q0; go_simp; (try with_reducible rfl)
        simp only [List.set_cons_zero, List.set_cons_succ]
        refine held_take (i := 10) (v := ?_) 37 rfl (by kernel_rfl) (by kernel_rfl) (by kernel_rfl) (fun _ _ _ h => h) rfl (by assumption) (Or.inl ⟨by rfl, ?_⟩) ?_
        rotate_left
        · intro w hSw; go_simp; (try with_reducible rfl)
        simp only [List.set_cons_zero, List.set_cons_succ]
        refine held_take (i := 11) (v := ?_) 38 rfl (by kernel_rfl) (by kernel_rfl) (by kernel_rfl) (fun _ _ _ h => h) rfl (by assumption) (Or.inl ⟨by rfl, ?_⟩) ?_
        rotate_left
        · intro w hSw; go_simp; (try with_reducible rfl)
        simp only [List.set_cons_zero, List.set_cons_succ]
        refine held_take (i := 12) (v := ?_) 39 rfl (by kernel_rfl) (by kernel_rfl) (by kernel_rfl) (fun _ _ _ h => h) rfl (by assumption) (Or.inl ⟨by rfl, ?_⟩) ?_
        rotate_left
        · intro w hSw; have c0 := cells_at (hBk.below hSw) 0; have c1 := cells_at (hBk.below hSw) 1; have c2 := cells_at (hBk.below hSw) 2; simp only [List.getElem?_toArray, List.getElem?_cons_zero, List.getElem?_cons_succ] at c0 c1 c2; go_simp; (try with_reducible rfl)
        simp only [List.set_cons_zero, List.set_cons_succ]
        refine held_take (i := 13) (v := ?_) 40 rfl (by kernel_rfl) (by kernel_rfl) (by kernel_rfl) (fun _ _ _ h => h) rfl (by assumption) (Or.inl ⟨by rfl, ?_⟩) ?_
        rotate_left
        · intro w hSw; go_simp; (try with_reducible rfl)
        simp only [List.set_cons_zero, List.set_cons_succ]
        refine held_take (i := 14) (v := ?_) 41 rfl (by kernel_rfl) (by kernel_rfl) (by kernel_rfl) (fun _ _ _ h => h) rfl (by assumption) (Or.inl ⟨by rfl, ?_⟩) ?_
        rotate_left
        · intro w hSw; go_simp; (try with_reducible rfl)
        simp only [List.set_cons_zero, List.set_cons_succ]
        refine held_take (i := 15) (v := ?_) 42 rfl (by kernel_rfl) (by kernel_rfl) (by kernel_rfl) (fun _ _ _ h => h) rfl (by assumption) (Or.inl ⟨by rfl, ?_⟩) ?_
        rotate_left
        · intro w hSw; go_simp; (try with_reducible rfl)
        simp only [List.set_cons_zero, List.set_cons_succ]
        refine held_take (i := 16) (v := ?_) 43 rfl (by kernel_rfl) (by kernel_rfl) (by kernel_rfl) (fun _ _ _ h => h) rfl (by assumption) (Or.inl ⟨by rfl, ?_⟩) ?_
        rotate_left
        · intro w hSw; go_simp; (try with_reducible rfl)
        simp only [List.set_cons_zero, List.set_cons_succ]
        refine held_take (i := 17) (v := ?_) 44 rfl (by kernel_rfl) (by kernel_rfl) (by kernel_rfl) (fun _ _ _ h => h) rfl (by assumption) (Or.inl ⟨by rfl, ?_⟩) ?_
        rotate_left
        · intro w hSw; have lk := (hLk.below hSw).cells k hkl bl off rfl; obtain ⟨lk0, lk1⟩ := lk; go_simp; (try with_reducible rfl)
        simp only [List.set_cons_zero, List.set_cons_succ]
        refine wpAnyH_ready (rs := [18]) (by kernel_rfl) (by simp) ?_
        refine (AllReadyH.cons rfl (fun K hK => ?_) AllReadyH.nil)
        go_simp
        refine (head_b _ _ (by decide) _).mono ?_
        rintro e w2x ⟨rfl, hb⟩
        have hbt := HB.trans hHeld hb
        have hTt := hTt.below hbt
        have hBk := hBk.below hbt
        have hLk := hLk.below hbt
        have hEr := hEr.below hbt
        have hG := hG.below hbt
        have hE := hE.step hbt
        go_wp2_with fail
        refine hK.out _ _ hbt (fun _ => held_next hbt (fun hHeld2 => ?_))
        clear hK hHeld hb hbt K
        have hHeld := hHeld2
        clear hHeld2
        refine held_take (i := 19) (v := ?_) 46 rfl (by kernel_rfl) (by kernel_rfl) (by kernel_rfl) (fun _ _ _ h => h) rfl (by assumption) (Or.inl ⟨by rfl, ?_⟩) ?_
        rotate_left
        · intro w hSw; go_simp; (try with_reducible rfl)
        simp only [List.set_cons_zero, List.set_cons_succ]
        refine held_take (i := 20) (v := ?_) 47 rfl (by kernel_rfl) (by kernel_rfl) (by kernel_rfl) (fun _ _ _ h => h) rfl (by assumption) (Or.inl ⟨by rfl, ?_⟩) ?_
        rotate_left
        · intro w hSw; go_simp; (try with_reducible rfl)
        simp only [List.set_cons_zero, List.set_cons_succ]
        refine held_take (i := 21) (v := ?_) 48 rfl (by kernel_rfl) (by kernel_rfl) (by kernel_rfl) (fun _ _ _ h => h) rfl (by assumption) (Or.inl ⟨by rfl, ?_⟩) ?_
        rotate_left
        · intro w hSw; go_simp; (try with_reducible rfl)
        simp only [List.set_cons_zero, List.set_cons_succ]
        refine held_take (i := 22) (v := ?_) 49 rfl (by kernel_rfl) (by kernel_rfl) (by kernel_rfl) (fun _ _ _ h => h) rfl (by assumption) (Or.inl ⟨by rfl, ?_⟩) ?_
        rotate_left
        · intro w hSw; have q0 := cells_at (hTt.below hSw) 0; simp only [List.getElem?_toArray, List.getElem?_cons_zero] at q0; go_simp; (try with_reducible rfl)
        simp only [List.set_cons_zero, List.set_cons_succ]
        refine held_take (i := 23) (v := ?_) 50 rfl (by kernel_rfl) (by kernel_rfl) (by kernel_rfl) (fun _ _ _ h => h) rfl (by assumption) (Or.inl ⟨by rfl, ?_⟩) ?_
        rotate_left
        · intro w hSw; go_simp; (try with_reducible rfl)
        simp only [List.set_cons_zero, List.set_cons_succ]
        refine held_take (i := 24) (v := ?_) 51 rfl (by kernel_rfl) (by kernel_rfl) (by kernel_rfl) (fun _ _ _ h => h) rfl (by assumption) (Or.inl ⟨by rfl, ?_⟩) ?_
        rotate_left
        · intro w hSw; go_simp; (try with_reducible rfl)
        simp only [List.set_cons_zero, List.set_cons_succ]
        refine held_take (i := 25) (v := ?_) 52 rfl (by kernel_rfl) (by kernel_rfl) (by kernel_rfl) (fun _ _ _ h => h) rfl (by assumption) (Or.inl ⟨by rfl, ?_⟩) ?_
        rotate_left
        · intro w hSw; have c0 := cells_at (hBk.below hSw) 0; have c1 := cells_at (hBk.below hSw) 1; have c2 := cells_at (hBk.below hSw) 2; simp only [List.getElem?_toArray, List.getElem?_cons_zero, List.getElem?_cons_succ] at c0 c1 c2; go_simp; (try with_reducible rfl)
        simp only [List.set_cons_zero, List.set_cons_succ]
        refine held_take (i := 26) (v := ?_) 53 rfl (by kernel_rfl) (by kernel_rfl) (by kernel_rfl) (fun _ _ _ h => h) rfl (by assumption) (Or.inl ⟨by rfl, ?_⟩) ?_
        rotate_left
        · intro w hSw; go_simp; (try with_reducible rfl)
        simp only [List.set_cons_zero, List.set_cons_succ]
        refine held_take (i := 27) (v := ?_) 54 rfl (by kernel_rfl) (by kernel_rfl) (by kernel_rfl) (fun _ _ _ h => h) rfl (by assumption) (Or.inl ⟨by rfl, ?_⟩) ?_
        rotate_left
        · intro w hSw; go_simp; (try with_reducible rfl)
        simp only [List.set_cons_zero, List.set_cons_succ]
        refine held_take (i := 28) (v := ?_) 55 rfl (by kernel_rfl) (by kernel_rfl) (by kernel_rfl) (fun _ _ _ h => h) rfl (by assumption) (Or.inl ⟨by rfl, ?_⟩) ?_
        rotate_left
        · intro w hSw; go_simp; (try with_reducible rfl)
        simp only [List.set_cons_zero, List.set_cons_succ]
        refine held_take (i := 29) (v := ?_) 56 rfl (by kernel_rfl) (by kernel_rfl) (by kernel_rfl) (fun _ _ _ h => h) rfl (by assumption) (Or.inl ⟨by rfl, ?_⟩) ?_
        rotate_left
        · intro w hSw; go_simp; (try with_reducible rfl)
        simp only [List.set_cons_zero, List.set_cons_succ]
        refine held_take (i := 30) (v := ?_) 57 rfl (by kernel_rfl) (by kernel_rfl) (by kernel_rfl) (fun _ _ _ h => h) rfl (by assumption) (Or.inl ⟨by rfl, ?_⟩) ?_
        rotate_left
        · intro w hSw; have lk := (hLk.below hSw).cells k hkl bl off rfl; obtain ⟨lk0, lk1⟩ := lk; go_simp; (try with_reducible rfl)
        simp only [List.set_cons_zero, List.set_cons_succ]
        refine wpAnyH_ready (rs := [31]) (by kernel_rfl) (by simp) ?_
        refine (AllReadyH.cons rfl (fun K hK => ?_) AllReadyH.nil)
        go_simp
        refine (head_b _ _ (by decide) _).mono ?_
        rintro e w3x ⟨rfl, hb⟩
        have hbt := HB.trans hHeld hb
        have hTt := hTt.below hbt
        have hBk := hBk.below hbt
        have hLk := hLk.below hbt
        have hEr := hEr.below hbt
        have hG := hG.below hbt
        have hE := hE.step hbt
        go_wp2_with fail
        refine hK.out _ _ hbt (fun _ => held_next hbt (fun hHeld2 => ?_))
        clear hK hHeld hb hbt K
        have hHeld := hHeld2
        clear hHeld2
        refine held_take (i := 32) (v := ?_) 59 rfl (by kernel_rfl) (by kernel_rfl) (by kernel_rfl) (fun _ _ _ h => h) rfl (by assumption) (Or.inl ⟨by rfl, ?_⟩) ?_
        rotate_left
        · intro w hSw; go_simp; (try with_reducible rfl)
        simp only [List.set_cons_zero, List.set_cons_succ]
        refine held_take (i := 33) (v := ?_) 60 rfl (by kernel_rfl) (by kernel_rfl) (by kernel_rfl) (fun _ _ _ h => h) rfl (by assumption) (Or.inl ⟨by rfl, ?_⟩) ?_
        rotate_left
        · intro w hSw; go_simp; (try with_reducible rfl)
        simp only [List.set_cons_zero, List.set_cons_succ]
        refine held_take (i := 34) (v := ?_) 61 rfl (by kernel_rfl) (by kernel_rfl) (by kernel_rfl) (fun _ _ _ h => h) rfl (by assumption) (Or.inl ⟨by rfl, ?_⟩) ?_
        rotate_left
        · intro w hSw; go_simp; (try with_reducible rfl)
        simp only [List.set_cons_zero, List.set_cons_succ]
        refine held_take (i := 35) (v := ?_) 62 rfl (by kernel_rfl) (by kernel_rfl) (by kernel_rfl) (fun _ _ _ h => h) rfl (by assumption) (Or.inl ⟨by rfl, ?_⟩) ?_
        rotate_left
        · intro w hSw; go_simp; (try with_reducible rfl)
        simp only [List.set_cons_zero, List.set_cons_succ]
        refine held_take (i := 37) (v := ?_) 64 rfl (by kernel_rfl) (by kernel_rfl) (by kernel_rfl) (fun _ _ _ h => h) rfl (by assumption) (Or.inl ⟨by rfl, ?_⟩) ?_
        rotate_left
        · intro w hSw; go_simp; (try with_reducible rfl)
        simp only [List.set_cons_zero, List.set_cons_succ]
        refine held_take (i := 38) (v := ?_) 65 rfl (by kernel_rfl) (by kernel_rfl) (by kernel_rfl) (fun _ _ _ h => h) rfl (by assumption) (Or.inl ⟨by rfl, ?_⟩) ?_
        rotate_left
        · intro w hSw; go_simp; (try with_reducible rfl)
        simp only [List.set_cons_zero, List.set_cons_succ]
        refine wpAnyH_ready (rs := [36]) (by kernel_rfl) (by simp) ?_
        refine (AllReadyH.cons rfl (fun K hK => ?_) AllReadyH.nil)
        go_simp
        refine (depth_any _ _ _ _ (hG.below hHeld) (hEr.below hHeld) (by rw [List.length_cons, chn_len, List.length_take]; omega)).mono ?_
        rintro e w4x ⟨he, hb⟩; rw [List.length_cons, chn_len, List.length_take, hkm] at he; subst he
        have hbt := HB.trans hHeld hb
        have hTt := hTt.below hbt
        have hBk := hBk.below hbt
        have hLk := hLk.below hbt
        have hEr := hEr.below hbt
        have hG := hG.below hbt
        have hE := hE.step hbt
        go_wp2_with fail
        refine hK.out _ _ hbt (fun _ => held_next hbt (fun hHeld2 => ?_))
        clear hK hHeld hb hbt K
        have hHeld := hHeld2
        clear hHeld2
        refine held_take (i := 39) (v := ?_) 66 rfl (by kernel_rfl) (by kernel_rfl) (by kernel_rfl) (fun _ _ _ h => h) rfl (by assumption) (Or.inl ⟨by rfl, ?_⟩) ?_
        rotate_left
        · intro w hSw; go_simp; (try with_reducible rfl)
        simp only [List.set_cons_zero, List.set_cons_succ]
        refine held_take (i := 40) (v := ?_) 67 rfl (by kernel_rfl) (by kernel_rfl) (by kernel_rfl) (fun _ _ _ h => h) rfl (by assumption) (Or.inl ⟨by rfl, ?_⟩) ?_
        rotate_left
        · intro w hSw; go_simp; (try with_reducible rfl)
        simp only [List.set_cons_zero, List.set_cons_succ]
        refine wpAnyH_done (by kernel_rfl) ?_ _
        clear hHeld hLk hG
        have c0 := cells_at hTt 0
        simp only [List.getElem?_toArray, List.getElem?_cons_zero] at c0
        obtain ⟨b', inner', hbe, hbk, hi⟩ := hEr
        have hbb : b = b' := by injection hbe with _ hbe; injection hbe with hbe; injection hbe with hbe; injection hbe
        subst hbb
        have HU := Lib.hid (unwrap_any b _ _ inner' _ hbk)
        have HI2 := Lib.hid hi
        clear hbe hbk hi hTt hBk
        go_wp2_with fail
        refine HU.out.mono ?_
        rintro e wq ⟨rfl, rfl⟩
        clear HU c0
        go_wp2_with fail
        go_roundw
        case rel => exact ⟨k, by omega, by go_num, HI2.out, hE⟩
        case measure => simp [intOf]
      · obtain rfl : j = 0 := by omega
        have hv : u5 = .iface 37 (.int .i64 (c : Int)) := hEr
        subst hv
        have hGr := HG.out.below hE.1
        have hb1 : Below wr.heap.size wr ((wr.alloc (.cells #[.int .i64 0] 37)).alloc (.cells #[.pointer none] 27)) := ((Below.refl wr.heap.size wr).alloc (Nat.le_refl _) _).alloc (by simp) _
        have ht1 : ((wr.alloc (.cells #[.int .i64 0] 37)).alloc (.cells #[.pointer none] 27)).heap[wr.heap.size]? = some (.cells #[.int .i64 0] 37 (0, 0)) := (Below.heap_alloc _ _ wr.heap.size (by simp)).trans (heap_alloc_new wr _)
        have ht2 : ((wr.alloc (.cells #[.int .i64 0] 37)).alloc (.cells #[.pointer none] 27)).heap[wr.heap.size + 1]? = some (.cells #[.pointer none] 27 (0, 0)) := by
          have := heap_alloc_new (wr.alloc (.cells #[.int .i64 0] 37)) (.cells #[.pointer none] 27)
          rw [World.size_alloc] at this
          exact this
        have hE2 := hE.step hb1
        have hG2 := hGr.below hb1
        have hle := hE.2
        have hG0 := hGr.lt
        have HC := Lib.hid (As37_from 37 (.int .i64 (c : Int)) wr.heap.size (some (.int .i64 (c : Int))) (.int .i64 0) _ hG2 ht1 (fun W a hb ha ht2 => as37_any (.errno (c : Int)) [] (.iface 37 (.int .i64 (c : Int))) wr.heap.size a (.int .i64 0) W rfl (by simp) ha ht2))
        have HS := Lib.hid (And.intro hE2 (And.intro hG2 (And.intro ht1 (And.intro ht2 (And.intro hle hG0)))))
        clear hE hEr hGr hb1 ht1 ht2 hE2 hG2 hle hG0
        go_wp2_with fail
        refine HC.out.mono ?_
        rintro e w3 ⟨rfl, hc3, ht3⟩
        obtain ⟨hE2, hG2, ht1, ht2, hle, hG0⟩ := HS.out
        have hE3 := hE2.hop (hc3.below hE2.2 (fun q hq h => by have h' : q = wr.heap.size := h; omega))
        have hG3 := hG2.chg hc3 (by omega)
        have hT3 := (hc3.block (wr.heap.size + 1) (lt_of_heap ht2) (by omega)).trans ht2
        have c0 := cells_at ht3 0
        simp only [List.getElem?_toArray, List.getElem?_cons_zero] at c0
        have HC2 := Lib.hid (As27_none (.errno (c : Int)) (.iface 37 (.int .i64 (c : Int))) (wr.heap.size + 1) (.pointer none) w3 hG3 rfl hT3)
        have HS3 := Lib.hid (And.intro hE3 hG3)
        clear hE2 hG2 ht1 ht2 hle hG0 hc3 ht3 hE3 hG3 hT3 HS HC
        go_wp2_with fail
        refine HC2.out.mono ?_
        rintro e w4 ⟨rfl, hb4⟩
        have hE4 := HS3.out.1.step hb4
        have HK := Lib.hid (law1_known w4 (HS3.out.2.below hb4))
        clear hb4 HS3 HC2 c0
        go_wp2_with fail
        refine HK.out.mono ?_
        rintro e w5 ⟨rfl, hb5⟩
        have hE5 := hE4.step hb5
        clear hb5 hE4
        go_wp2_with fail
        go_ret
        exact ⟨rfl, hE5.1⟩
  · have hY := hLk.take (k := 30) (by omega)
    have hcap : 30 ≤ cap := by have := hLk.2.1; omega
    have hm2 : (30 : Int) < (len : Int) := by omega
    obtain ⟨ys, hys⟩ : ∃ ys, ys = xs.take 30 := ⟨_, rfl⟩
    rw [← hys] at hY
    clear hys hLk
    have hcI : (30 : Int) ≤ (cap : Int) := by omega
    have HLK := Lib.hid hY
    have HG := Lib.hid hG
    have hyl := hY.1
    clear hY hG
    go_enter Tryd.func3, Tryd.ntmps3
    go_wp2_with fail
    refine (HWi.out w).mono ?_
    rintro e w0 ⟨rfl, rfl⟩
    clear HWi
    go_wp2_with fail
    refine (chain_ok a 30 cap ys (c : Int) w HG.out HLK.out (by omega) (by omega)).mono ?_
    rintro e w1 ⟨va, rfl, hA, hb⟩
    have HP := Lib.hid (And.intro ((Ext.refl w).step hb) (And.intro (HG.out.below hb) hA))
    clear hb hA hyl
    go_wp2_with fail
    go_loopw [5, 6] (fun v i wx => ∃ j : Nat, j ≤ 30 ∧ i = .int .i64 ((j : Int) - 1) ∧ Er wx (.errno (c : Int)) (chn (ys.take j)) v ∧ Ext w.heap.size w wx) (fun _ i _ => (intOf i + 1).toNat)
    case atStart => exact ⟨30, Nat.le_refl _, rfl, by rw [List.take_of_length_le (by rw [HLK.out.1]; exact Nat.le_refl _)]; exact HP.out.2.2, HP.out.1⟩
    case round =>
      obtain ⟨j, hj, rfl, hEr, hE⟩ := hrel
      clear HP
      by_cases hj0 : 0 < j
      · obtain ⟨k, rfl⟩ : ∃ k, j = k + 1 := ⟨j - 1, by omega⟩
        have hjk : ((k + 1 : Nat) : Int) - 1 = (k : Int) := by omega
        rw [hjk]
        have hk0 : (0 : Int) ≤ (k : Int) := by omega
        have hkM : (k : Int) < (30 : Int) := by omega
        have hkl : k < ys.length := by rw [HLK.out.1]; omega
        have hkm : min k ys.length = k := by omega
        have hkw : IntKind.i64.wrap ((k : Int) + 1) = ((k + 1 : Nat) : Int) := by rw [IntWalk.i64_in _ (by omega)]; omega
        have hkw2 : IntKind.i64.wrap ((k : Int) - 1) = (k : Int) - 1 := IntWalk.i64_in _ (by omega)
        have hkk : (((k + 1 : Nat) : Int) != ((k + 1 : Nat) : Int)) = false := by simp
        rw [chn_snoc ys k hkl] at hEr
        obtain ⟨b, inner, rfl, hbk, hi⟩ := hEr
        simp only [hx] at hbk
        obtain ⟨bl, off, rfl⟩ := HLK.out.at (by omega)
        have hErA : Er wr (.errno (c : Int)) (hx ys[k] :: chn (ys.take k)) (.iface 27 (.pointer (some ⟨b, 0, none⟩))) := ⟨b, inner, rfl, hbk, hi⟩
        have hGr := HG.out.below hE.1
        have hb1 := (Below.refl wr.heap.size wr).alloc (Nat.le_refl _) (.cells #[.pointer none] 27)
        have ht1 : (wr.alloc (.cells #[.pointer none] 27)).heap[wr.heap.size]? = some (.cells #[.pointer none] 27 (0, 0)) := heap_alloc_new wr _
        have hSz := hE.2
        obtain ⟨t, hte⟩ : ∃ t, t = wr.heap.size := ⟨_, rfl⟩
        have hG0 := hGr.lt
        rw [← hte] at ht1 hSz hG0
        have HB1 := Lib.hid (And.intro hb1 (And.intro ht1 (And.intro hE (And.intro hGr (And.intro hErA (And.intro hbk hi))))))
        have HTE := Lib.hid hte
        clear hb1 ht1 hE hGr hErA hbk hi hte hjk hj0
        go_upto_region 9 with fail
        rw [← HTE.out]
        obtain ⟨hb1, ht1, hE, hGr, hErA, hbk, hi⟩ := HB1.out
        clear HB1
        obtain ⟨wd, hwd⟩ : ∃ wd, wd = (wr.alloc (.cells #[.pointer none] 27)).drew := ⟨_, rfl⟩
        have hbD : Below wr.heap.size wr wd := by rw [hwd]; exact hb1.drew
        have htd : wd.heap[t]? = some (.cells #[.pointer none] 27 (0, 0)) := by rw [hwd]; exact ht1
        have hEd := hE.step hbD
        have hGd := hGr.below hbD
        have hErd := hErA.below hbD
        have hBd := (hbD.block b (lt_of_heap hbk)).trans hbk
        have HI := Lib.hid (hi.below hbD)
        clear hb1 ht1 hE hGr hErA hbk hi hbD
        refine wp_region_held_drew (S := fun _ => True) (by kernel_rfl) trivial (fun hHeld => ?_)
        rw [← hwd]
        clear hwd
        have HC := Lib.hid (As27_from 27 (.pointer (some ⟨b, 0, none⟩)) t (some (.pointer (some ⟨b, 0, none⟩))) (.pointer none) wd hGd htd (fun W a hb ha ht2 => (as27_hit b t a (.pointer none) W ha ht2).mono fun e w' h => h))
        refine held_take (i := 0) (v := ?_) 27 rfl (by kernel_rfl) (by kernel_rfl) (by kernel_rfl) (fun _ _ _ h => h) rfl (by assumption) (Or.inl ⟨by rfl, ?_⟩) ?_
        rotate_left
        · intro w hSw; go_simp; (try with_reducible rfl)
        simp only [List.set_cons_zero, List.set_cons_succ]
        refine held_take (i := 1) (v := ?_) 28 rfl (by kernel_rfl) (by kernel_rfl) (by kernel_rfl) (fun _ _ _ h => h) rfl (by assumption) (Or.inl ⟨by rfl, ?_⟩) ?_
        rotate_left
        · intro w hSw; go_simp; (try with_reducible rfl)
        simp only [List.set_cons_zero, List.set_cons_succ]
        refine wpAnyH_ready (rs := [2]) (by kernel_rfl) (by simp) ?_
        refine (AllReadyH.cons rfl (fun K hK => ?_) AllReadyH.nil)
        go_simp
        refine (HC.out).mono ?_
        rintro e w1x ⟨rfl, hc2, ht2⟩
        have hBk : AtB w1x b _ := blk_hit (by decide) htd hc2 hBd
        have hTt : AtB w1x t (.cells #[.pointer (some ⟨b, 0, none⟩)] 27 (0, 0)) := ht2
        have hE := hEd.hop (hc2.below hEd.2 (fun q hq h => by have h' : q = t := h; omega))
        have hLk := HLK.out.below hE.1
        have hEr := hErd.hit (by decide) htd hc2
        have hG := hGd.chg hc2 (by omega)
        clear hc2 ht2 hBd hEd hErd htd hGd
        go_wp2_with fail
        refine hK.out _ _ trivial (fun _ => ?_)
        refine wpAnyH_mono (S' := HB w1x) (fun _ _ => trivial) _ _ _ _ ?_
        have hHeld2 : HB w1x w1x := HB.refl _
        clear hK hHeld K
        have hHeld := hHeld2
        clear hHeld2
        refine held_take (i := 3) (v := ?_) 30 rfl (by kernel_rfl) (by kernel_rfl) (by kernel_rfl) (fun _ _ _ h => h) rfl (by assumption) (Or.inl ⟨by rfl, ?_⟩) ?_
        rotate_left
        · intro w hSw; go_simp; (try with_reducible rfl)
        simp only [List.set_cons_zero, List.set_cons_succ]
        refine held_take (i := 4) (v := ?_) 31 rfl (by kernel_rfl) (by kernel_rfl) (by kernel_rfl) (fun _ _ _ h => h) rfl (by assumption) (Or.inl ⟨by rfl, ?_⟩) ?_
        rotate_left
        · intro w hSw; go_simp; (try with_reducible rfl)
        simp only [List.set_cons_zero, List.set_cons_succ]
        refine held_take (i := 5) (v := ?_) 32 rfl (by kernel_rfl) (by kernel_rfl) (by kernel_rfl) (fun _ _ _ h => h) rfl (by assumption) (Or.inl ⟨by rfl, ?_⟩) ?_
        rotate_left
        · intro w hSw; have q0 := cells_at (hTt.below hSw) 0; simp only [List.getElem?_toArray, List.getElem?_cons_zero] at q0; go_simp; (try with_reducible rfl)
        simp only [List.set_cons_zero, List.set_cons_succ]
        refine held_take (i := 6) (v := ?_) 33 rfl (by kernel_rfl) (by kernel_rfl) (by kernel_rfl) (fun _ _ _ h => h) rfl (by assumption) (Or.inl ⟨by rfl, ?_⟩) ?_
        rotate_left
        · intro w hSw; go_simp; (try with_reducible rfl)
        simp only [List.set_cons_zero, List.set_cons_succ]
        refine held_take (i := 7) (v := ?_) 34 rfl (by kernel_rfl) (by kernel_rfl) (by kernel_rfl) (fun _ _ _ h => h) rfl (by assumption) (Or.inl ⟨by rfl, ?_⟩) ?_
        rotate_left
        · intro w hSw; go_simp; (try with_reducible rfl)
        simp only [List.set_cons_zero, List.set_cons_succ]
        refine held_take (i := 8) (v := ?_) 35 rfl (by kernel_rfl) (by kernel_rfl) (by kernel_rfl) (fun _ _ _ h => h) rfl (by assumption) (Or.inl ⟨by rfl, ?_⟩) ?_
        rotate_left
        · intro w hSw; go_simp; (try with_reducible rfl)
        simp only [List.set_cons_zero, List.set_cons_succ]
        refine held_take (i := 9) (v := ?_) 36 rfl (by kernel_rfl) (by kernel_rfl) (by kernel_rfl) (fun _ _ _ h => h) rfl (by assumption) (Or.inl ⟨by rfl, ?_⟩) ?_
        rotate_left
        · intro w hSw; have q0 := cells_at (hTt.below hSw) 0; simp only [List.getElem?_toArray, List.getElem?_cons_zero] at q0; go_simp; (try with_reducible rfl)
        simp only [List.set_cons_zero, List.set_cons_succ]
        refine held_take (i := 10) (v := ?_) 37 rfl (by kernel_rfl) (by kernel_rfl) (by kernel_rfl) (fun _ _ _ h => h) rfl (by assumption) (Or.inl ⟨by rfl, ?_⟩) ?_
        rotate_left
        · intro w hSw; go_simp; (try with_reducible rfl)
        simp only [List.set_cons_zero, List.set_cons_succ]
        refine held_take (i := 11) (v := ?_) 38 rfl (by kernel_rfl) (by kernel_rfl) (by kernel_rfl) (fun _ _ _ h => h) rfl (by assumption) (Or.inl ⟨by rfl, ?_⟩) ?_
        rotate_left
        · intro w hSw; go_simp; (try with_reducible rfl)
        simp only [List.set_cons_zero, List.set_cons_succ]
        refine held_take (i := 12) (v := ?_) 39 rfl (by kernel_rfl) (by kernel_rfl) (by kernel_rfl) (fun _ _ _ h => h) rfl (by assumption) (Or.inl ⟨by rfl, ?_⟩) ?_
        rotate_left
        · intro w hSw; have c0 := cells_at (hBk.below hSw) 0; have c1 := cells_at (hBk.below hSw) 1; have c2 := cells_at (hBk.below hSw) 2; simp only [List.getElem?_toArray, List.getElem?_cons_zero, List.getElem?_cons_succ] at c0 c1 c2; go_simp; (try with_reducible rfl)
        simp only [List.set_cons_zero, List.set_cons_succ]
        refine held_take (i := 13) (v := ?_) 40 rfl (by kernel_rfl) (by kernel_rfl) (by kernel_rfl) (fun _ _ _ h => h) rfl (by assumption) (Or.inl ⟨by rfl, ?_⟩) ?_
        rotate_left
        · intro w hSw; go_simp; (try with_reducible rfl)
        simp only [List.set_cons_zero, List.set_cons_succ]
        refine held_take (i := 14) (v := ?_) 41 rfl (by kernel_rfl) (by kernel_rfl) (by kernel_rfl) (fun _ _ _ h => h) rfl (by assumption) (Or.inl ⟨by rfl, ?_⟩) ?_
        rotate_left
        · intro w hSw; go_simp; (try with_reducible rfl)
        simp only [List.set_cons_zero, List.set_cons_succ]
        refine held_take (i := 15) (v := ?_) 42 rfl (by kernel_rfl) (by kernel_rfl) (by kernel_rfl) (fun _ _ _ h => h) rfl (by assumption) (Or.inl ⟨by rfl, ?_⟩) ?_
        rotate_left
        · intro w hSw; go_simp; (try with_reducible rfl)
        simp only [List.set_cons_zero, List.set_cons_succ]
        refine held_take (i := 16) (v := ?_) 43 rfl (by kernel_rfl) (by kernel_rfl) (by kernel_rfl) (fun _ _ _ h => h) rfl (by assumption) (Or.inl ⟨by rfl, ?_⟩) ?_
        rotate_left
        · intro w hSw; go_simp; (try with_reducible rfl)
        simp only [List.set_cons_zero, List.set_cons_succ]
        refine held_take (i := 17) (v := ?_) 44 rfl (by kernel_rfl) (by kernel_rfl) (by kernel_rfl) (fun _ _ _ h => h) rfl (by assumption) (Or.inl ⟨by rfl, ?_⟩) ?_
        rotate_left
        · intro w hSw; have lk := (hLk.below hSw).cells k hkl bl off rfl; obtain ⟨lk0, lk1⟩ := lk; go_simp; (try with_reducible rfl)
        simp only [List.set_cons_zero, List.set_cons_succ]
        refine wpAnyH_ready (rs := [18]) (by kernel_rfl) (by simp) ?_
        refine (AllReadyH.cons rfl (fun K hK => ?_) AllReadyH.nil)
        go_simp
        refine (head_b _ _ (by decide) _).mono ?_
        rintro e w2x ⟨rfl, hb⟩
        have hbt := HB.trans hHeld hb
        have hTt := hTt.below hbt
        have hBk := hBk.below hbt
        have hLk := hLk.below hbt
        have hEr := hEr.below hbt
        have hG := hG.below hbt
        have hE := hE.step hbt
        go_wp2_with fail
        refine hK.out _ _ hbt (fun _ => held_next hbt (fun hHeld2 => ?_))
        clear hK hHeld hb hbt K
        have hHeld := hHeld2
        clear hHeld2
        refine held_take (i := 19) (v := ?_) 46 rfl (by kernel_rfl) (by kernel_rfl) (by kernel_rfl) (fun _ _ _ h => h) rfl (by assumption) (Or.inl ⟨by rfl, ?_⟩) ?_
        rotate_left
        · intro w hSw; go_simp; (try with_reducible rfl)
        simp only [List.set_cons_zero, List.set_cons_succ]
        refine held_take (i := 20) (v := ?_) 47 rfl (by kernel_rfl) (by kernel_rfl) (by kernel_rfl) (fun _ _ _ h => h) rfl (by assumption) (Or.inl ⟨by rfl, ?_⟩) ?_
        rotate_left
        · intro w hSw; go_simp; (try with_reducible rfl)
        simp only [List.set_cons_zero, List.set_cons_succ]
        refine held_take (i := 21) (v := ?_) 48 rfl (by kernel_rfl) (by kernel_rfl) (by kernel_rfl) (fun _ _ _ h => h) rfl (by assumption) (Or.inl ⟨by rfl, ?_⟩) ?_
        rotate_left
        · intro w hSw; go_simp; (try with_reducible rfl)
        simp only [List.set_cons_zero, List.set_cons_succ]
        refine held_take (i := 22) (v := ?_) 49 rfl (by kernel_rfl) (by kernel_rfl) (by kernel_rfl) (fun _ _ _ h => h) rfl (by assumption) (Or.inl ⟨by rfl, ?_⟩) ?_
        rotate_left
        · intro w hSw; have q0 := cells_at (hTt.below hSw) 0; simp only [List.getElem?_toArray, List.getElem?_cons_zero] at q0; go_simp; (try with_reducible rfl)
        simp only [List.set_cons_zero, List.set_cons_succ]
        refine held_take (i := 23) (v := ?_) 50 rfl (by kernel_rfl) (by kernel_rfl) (by kernel_rfl) (fun _ _ _ h => h) rfl (by assumption) (Or.inl ⟨by rfl, ?_⟩) ?_
        rotate_left
        · intro w hSw; go_simp; (try with_reducible rfl)
        simp only [List.set_cons_zero, List.set_cons_succ]
        refine held_take (i := 24) (v := ?_) 51 rfl (by kernel_rfl) (by kernel_rfl) (by kernel_rfl) (fun _ _ _ h => h) rfl (by assumption) (Or.inl ⟨by rfl, ?_⟩) ?_
        rotate_left
        · intro w hSw; go_simp; (try with_reducible rfl)
        simp only [List.set_cons_zero, List.set_cons_succ]
        refine held_take (i := 25) (v := ?_) 52 rfl (by kernel_rfl) (by kernel_rfl) (by kernel_rfl) (fun _ _ _ h => h) rfl (by assumption) (Or.inl ⟨by rfl, ?_⟩) ?_
        rotate_left
        · intro w hSw; have c0 := cells_at (hBk.below hSw) 0; have c1 := cells_at (hBk.below hSw) 1; have c2 := cells_at (hBk.below hSw) 2; simp only [List.getElem?_toArray, List.getElem?_cons_zero, List.getElem?_cons_succ] at c0 c1 c2; go_simp; (try with_reducible rfl)
        simp only [List.set_cons_zero, List.set_cons_succ]
        refine held_take (i := 26) (v := ?_) 53 rfl (by kernel_rfl) (by kernel_rfl) (by kernel_rfl) (fun _ _ _ h => h) rfl (by assumption) (Or.inl ⟨by rfl, ?_⟩) ?_
        rotate_left
        · intro w hSw; go_simp; (try with_reducible rfl)
        simp only [List.set_cons_zero, List.set_cons_succ]
        refine held_take (i := 27) (v := ?_) 54 rfl (by kernel_rfl) (by kernel_rfl) (by kernel_rfl) (fun _ _ _ h => h) rfl (by assumption) (Or.inl ⟨by rfl, ?_⟩) ?_
        rotate_left
        · intro w hSw; go_simp; (try with_reducible rfl)
        simp only [List.set_cons_zero, List.set_cons_succ]
        refine held_take (i := 28) (v := ?_) 55 rfl (by kernel_rfl) (by kernel_rfl) (by kernel_rfl) (fun _ _ _ h => h) rfl (by assumption) (Or.inl ⟨by rfl, ?_⟩) ?_
        rotate_left
        · intro w hSw; go_simp; (try with_reducible rfl)
        simp only [List.set_cons_zero, List.set_cons_succ]
        refine held_take (i := 29) (v := ?_) 56 rfl (by kernel_rfl) (by kernel_rfl) (by kernel_rfl) (fun _ _ _ h => h) rfl (by assumption) (Or.inl ⟨by rfl, ?_⟩) ?_
        rotate_left
        · intro w hSw; go_simp; (try with_reducible rfl)
        simp only [List.set_cons_zero, List.set_cons_succ]
        refine held_take (i := 30) (v := ?_) 57 rfl (by kernel_rfl) (by kernel_rfl) (by kernel_rfl) (fun _ _ _ h => h) rfl (by assumption) (Or.inl ⟨by rfl, ?_⟩) ?_
        rotate_left
        · intro w hSw; have lk := (hLk.below hSw).cells k hkl bl off rfl; obtain ⟨lk0, lk1⟩ := lk; go_simp; (try with_reducible rfl)
        simp only [List.set_cons_zero, List.set_cons_succ]
        refine wpAnyH_ready (rs := [31]) (by kernel_rfl) (by simp) ?_
        refine (AllReadyH.cons rfl (fun K hK => ?_) AllReadyH.nil)
        go_simp
        refine (head_b _ _ (by decide) _).mono ?_
        rintro e w3x ⟨rfl, hb⟩
        have hbt := HB.trans hHeld hb
        have hTt := hTt.below hbt
        have hBk := hBk.below hbt
        have hLk := hLk.below hbt
        have hEr := hEr.below hbt
        have hG := hG.below hbt
        have hE := hE.step hbt
        go_wp2_with fail
        refine hK.out _ _ hbt (fun _ => held_next hbt (fun hHeld2 => ?_))
        clear hK hHeld hb hbt K
        have hHeld := hHeld2
        clear hHeld2
        refine held_take (i := 32) (v := ?_) 59 rfl (by kernel_rfl) (by kernel_rfl) (by kernel_rfl) (fun _ _ _ h => h) rfl (by assumption) (Or.inl ⟨by rfl, ?_⟩) ?_
        rotate_left
        · intro w hSw; go_simp; (try with_reducible rfl)
        simp only [List.set_cons_zero, List.set_cons_succ]
        refine held_take (i := 33) (v := ?_) 60 rfl (by kernel_rfl) (by kernel_rfl) (by kernel_rfl) (fun _ _ _ h => h) rfl (by assumption) (Or.inl ⟨by rfl, ?_⟩) ?_
        rotate_left
        · intro w hSw; go_simp; (try with_reducible rfl)
        simp only [List.set_cons_zero, List.set_cons_succ]
        refine held_take (i := 34) (v := ?_) 61 rfl (by kernel_rfl) (by kernel_rfl) (by kernel_rfl) (fun _ _ _ h => h) rfl (by assumption) (Or.inl ⟨by rfl, ?_⟩) ?_
        rotate_left
        · intro w hSw; go_simp; (try with_reducible rfl)
        simp only [List.set_cons_zero, List.set_cons_succ]
        refine held_take (i := 35) (v := ?_) 62 rfl (by kernel_rfl) (by kernel_rfl) (by kernel_rfl) (fun _ _ _ h => h) rfl (by assumption) (Or.inl ⟨by rfl, ?_⟩) ?_
        rotate_left
        · intro w hSw; go_simp; (try with_reducible rfl)
        simp only [List.set_cons_zero, List.set_cons_succ]
        refine held_take (i := 37) (v := ?_) 64 rfl (by kernel_rfl) (by kernel_rfl) (by kernel_rfl) (fun _ _ _ h => h) rfl (by assumption) (Or.inl ⟨by rfl, ?_⟩) ?_
        rotate_left
        · intro w hSw; go_simp; (try with_reducible rfl)
        simp only [List.set_cons_zero, List.set_cons_succ]
        refine held_take (i := 38) (v := ?_) 65 rfl (by kernel_rfl) (by kernel_rfl) (by kernel_rfl) (fun _ _ _ h => h) rfl (by assumption) (Or.inl ⟨by rfl, ?_⟩) ?_
        rotate_left
        · intro w hSw; go_simp; (try with_reducible rfl)
        simp only [List.set_cons_zero, List.set_cons_succ]
        refine wpAnyH_ready (rs := [36]) (by kernel_rfl) (by simp) ?_
        refine (AllReadyH.cons rfl (fun K hK => ?_) AllReadyH.nil)
        go_simp
        refine (depth_any _ _ _ _ (hG.below hHeld) (hEr.below hHeld) (by rw [List.length_cons, chn_len, List.length_take]; omega)).mono ?_
        rintro e w4x ⟨he, hb⟩; rw [List.length_cons, chn_len, List.length_take, hkm] at he; subst he
        have hbt := HB.trans hHeld hb
        have hTt := hTt.below hbt
        have hBk := hBk.below hbt
        have hLk := hLk.below hbt
        have hEr := hEr.below hbt
        have hG := hG.below hbt
        have hE := hE.step hbt
        go_wp2_with fail
        refine hK.out _ _ hbt (fun _ => held_next hbt (fun hHeld2 => ?_))
        clear hK hHeld hb hbt K
        have hHeld := hHeld2
        clear hHeld2
        refine held_take (i := 39) (v := ?_) 66 rfl (by kernel_rfl) (by kernel_rfl) (by kernel_rfl) (fun _ _ _ h => h) rfl (by assumption) (Or.inl ⟨by rfl, ?_⟩) ?_
        rotate_left
        · intro w hSw; go_simp; (try with_reducible rfl)
        simp only [List.set_cons_zero, List.set_cons_succ]
        refine held_take (i := 40) (v := ?_) 67 rfl (by kernel_rfl) (by kernel_rfl) (by kernel_rfl) (fun _ _ _ h => h) rfl (by assumption) (Or.inl ⟨by rfl, ?_⟩) ?_
        rotate_left
        · intro w hSw; go_simp; (try with_reducible rfl)
        simp only [List.set_cons_zero, List.set_cons_succ]
        refine wpAnyH_done (by kernel_rfl) ?_ _
        clear hHeld hLk hG
        have c0 := cells_at hTt 0
        simp only [List.getElem?_toArray, List.getElem?_cons_zero] at c0
        obtain ⟨b', inner', hbe, hbk, hi⟩ := hEr
        have hbb : b = b' := by injection hbe with _ hbe; injection hbe with hbe; injection hbe with hbe; injection hbe
        subst hbb
        have HU := Lib.hid (unwrap_any b _ _ inner' _ hbk)
        have HI2 := Lib.hid hi
        clear hbe hbk hi hTt hBk
        go_wp2_with fail
        refine HU.out.mono ?_
        rintro e wq ⟨rfl, rfl⟩
        clear HU c0
        go_wp2_with fail
        go_roundw
        case rel => exact ⟨k, by omega, by go_num, HI2.out, hE⟩
        case measure => simp [intOf]
      · obtain rfl : j = 0 := by omega
        have hv : u5 = .iface 37 (.int .i64 (c : Int)) := hEr
        subst hv
        have hGr := HG.out.below hE.1
        have hb1 : Below wr.heap.size wr ((wr.alloc (.cells #[.int .i64 0] 37)).alloc (.cells #[.pointer none] 27)) := ((Below.refl wr.heap.size wr).alloc (Nat.le_refl _) _).alloc (by simp) _
        have ht1 : ((wr.alloc (.cells #[.int .i64 0] 37)).alloc (.cells #[.pointer none] 27)).heap[wr.heap.size]? = some (.cells #[.int .i64 0] 37 (0, 0)) := (Below.heap_alloc _ _ wr.heap.size (by simp)).trans (heap_alloc_new wr _)
        have ht2 : ((wr.alloc (.cells #[.int .i64 0] 37)).alloc (.cells #[.pointer none] 27)).heap[wr.heap.size + 1]? = some (.cells #[.pointer none] 27 (0, 0)) := by
          have := heap_alloc_new (wr.alloc (.cells #[.int .i64 0] 37)) (.cells #[.pointer none] 27)
          rw [World.size_alloc] at this
          exact this
        have hE2 := hE.step hb1
        have hG2 := hGr.below hb1
        have hle := hE.2
        have hG0 := hGr.lt
        have HC := Lib.hid (As37_from 37 (.int .i64 (c : Int)) wr.heap.size (some (.int .i64 (c : Int))) (.int .i64 0) _ hG2 ht1 (fun W a hb ha ht2 => as37_any (.errno (c : Int)) [] (.iface 37 (.int .i64 (c : Int))) wr.heap.size a (.int .i64 0) W rfl (by simp) ha ht2))
        have HS := Lib.hid (And.intro hE2 (And.intro hG2 (And.intro ht1 (And.intro ht2 (And.intro hle hG0)))))
        clear hE hEr hGr hb1 ht1 ht2 hE2 hG2 hle hG0
        go_wp2_with fail
        refine HC.out.mono ?_
        rintro e w3 ⟨rfl, hc3, ht3⟩
        obtain ⟨hE2, hG2, ht1, ht2, hle, hG0⟩ := HS.out
        have hE3 := hE2.hop (hc3.below hE2.2 (fun q hq h => by have h' : q = wr.heap.size := h; omega))
        have hG3 := hG2.chg hc3 (by omega)
        have hT3 := (hc3.block (wr.heap.size + 1) (lt_of_heap ht2) (by omega)).trans ht2
        have c0 := cells_at ht3 0
        simp only [List.getElem?_toArray, List.getElem?_cons_zero] at c0
        have HC2 := Lib.hid (As27_none (.errno (c : Int)) (.iface 37 (.int .i64 (c : Int))) (wr.heap.size + 1) (.pointer none) w3 hG3 rfl hT3)
        have HS3 := Lib.hid (And.intro hE3 hG3)
        clear hE2 hG2 ht1 ht2 hle hG0 hc3 ht3 hE3 hG3 hT3 HS HC
        go_wp2_with fail
        refine HC2.out.mono ?_
        rintro e w4 ⟨rfl, hb4⟩
        have hE4 := HS3.out.1.step hb4
        have HK := Lib.hid (law1_known w4 (HS3.out.2.below hb4))
        clear hb4 HS3 HC2 c0
        go_wp2_with fail
        refine HK.out.mono ?_
        rintro e w5 ⟨rfl, hb5⟩
        have hE5 := hE4.step hb5
        clear hb5 hE4
        go_wp2_with fail
        go_ret
        exact ⟨rfl, hE5.1⟩
theorem FaultUnwraps_walk (v0 v1 : Value) (w : World) (hG : Gl w) (h0 : Arg Tryd.prog w 22 v0) (h1 : Arg Tryd.prog w 3 v1) :
    Calls Tryd.prog 3 #[v0, v1] w fun e w' => e = .returned (.bool true) ∧ Below w.heap.size w w' := by
  obtain ⟨a, len, cap, xs, rfl, hLk⟩ := h0.links
  obtain ⟨n, rfl, _⟩ := h1.int Tryd.underlying3
  exact funwraps_any a len cap xs n w hG hLk
end Go.Proofs.YtmbkcohkmedpgaaDoor
