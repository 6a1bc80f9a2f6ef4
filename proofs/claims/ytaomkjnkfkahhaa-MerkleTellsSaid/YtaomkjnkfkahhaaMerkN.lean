/- known of the statements on merkle. -/
import Derived.Test.YtaomkjnkfkahhaaMerkK
namespace Go.Proofs.Ytaomkjnkfkahhaa
open Go.RowKit

theorem check_eq (a1 a2 : Option Addr) (l1 l2 c1 c2 : Nat) (rt leaf : List UInt8) (i n : Int) (ap : Option Addr) (lp cp : Nat) (ps : List (List UInt8)) (r : Bool) (w : World) (h1 : Bs w a1 l1 c1 rt) (h2 : Bs w a2 l2 c2 leaf) (hP : LL w ap lp cp ps) (hx : ∀ p ∈ ps, p.length ≤ 1000) (hl2 : l2 ≤ 1000) (hlp : lp ≤ 64) (hn : n ≤ 1000) (hr : mcheck rt leaf i n ps = r) :
    Calls Try.prog 16 #[.slice a1 l1 c1, .slice a2 l2 c2, .int .i64 i, .int .i64 n, .slice ap lp cp] w fun e w' => e = .returned (.bool r) ∧ Below w.heap.size w w' := by
  subst hr
  exact check_any a1 a2 l1 l2 c1 c2 rt leaf i n ap lp cp ps w h1 h2 hP hx hl2 hlp hn
def ABC : List (List UInt8) := [[97], [98], [99]]
theorem mpart3 : mpart 3 = 2 := mpart_unique (a := 1) (by decide) (by decide)
theorem mpart2 : mpart 2 = 1 := mpart_unique (a := 0) (by decide) (by decide)
theorem dep23 : dep 2 3 = 1 := by rw [dep, if_neg (by omega), mpart3, if_neg (by omega), dep, if_pos (by omega)]
theorem dep13 : dep 1 3 = 2 := by rw [dep, if_neg (by omega), mpart3, if_pos (by omega), dep, if_neg (by omega), mpart2, if_neg (by omega), dep, if_pos (by omega)]
theorem known_yes : mcheck (mroot ABC) [99] 2 3 (mpath ABC 2) = true := by
  have h := climb_path ABC 2 (by decide)
  unfold mcheck
  rw [decide_eq_true (by omega)]
  show ((climb (sha (0 :: [99])) 2 3 (mpath ABC 2)).2 && decide ((climb (sha (0 :: [99])) 2 3 (mpath ABC 2)).1 = mroot ABC)) = true
  have h : climb (sha (0 :: [99])) 2 3 (mpath ABC 2) = (mroot ABC, true) := h
  rw [h]; simp
theorem known_no : mcheck (mroot ABC) [99] 1 3 (mpath ABC 2) = false := by
  unfold mcheck
  rw [decide_eq_true (by omega)]
  show ((climb (sha (0 :: [99])) 1 3 (mpath ABC 2)).2 && _) = false
  rw [climb_ok, mpath_length, dep13]
  show (decide (dep 2 3 = 2) && _) = false
  rw [dep23]; rfl
theorem mpath_shorts (ls : List (List UInt8)) (i : Nat) : ∀ p ∈ mpath ls i, p.length ≤ 1000 := by
  rw [mpath]
  split
  · intro p hp; cases hp
  · rename_i h
    have := mpart_spec (n := ls.length) (by omega)
    split
    · intro p hp
      rcases List.mem_append.1 hp with hp | hp
      · exact mpath_shorts _ _ p hp
      · rw [List.mem_singleton.1 hp, mroot_length]; omega
    · intro p hp
      rcases List.mem_append.1 hp with hp | hp
      · exact mpath_shorts _ _ p hp
      · rw [List.mem_singleton.1 hp, mroot_length]; omega
termination_by ls.length
decreasing_by
  · simp; omega
  · simp; omega

theorem Bs.lit (w : World) (x : UInt8) : Bs (w.alloc (.cells #[.int .u8 (x.toNat : Int)] TB (1, 2))) (some ⟨w.heap.size, 0, none⟩) 1 1 [x] :=
  Bs.newRow w _ TB (1, 2) 1 1 [x] rfl (Nat.le_refl _) (by simp [maxLen]) rfl
theorem LL.three (w : World) {a b c : Option Addr} {m1 m2 m3 c1 c2 c3 : Nat} {x y z : List UInt8} (h1 : Bs w a m1 c1 x) (h2 : Bs w b m2 c2 y) (h3 : Bs w c m3 c3 z) :
    LL (w.alloc (.cells #[.slice a m1 c1, .slice b m2 c2, .slice c m3 c3] TBS)) (some ⟨w.heap.size, 0, none⟩) 3 3 [x, y, z] := by
  refine ⟨rfl, Nat.le_refl _, by simp [maxLen], .inr ⟨_, _, rfl, by simp, fun i hi => ?_⟩⟩
  match i, hi with
  | 0, _ => exact ⟨a, m1, c1, by rw [World.cell?_alloc_mark]; rfl, h1.alloc _⟩
  | 1, _ => exact ⟨b, m2, c2, by rw [World.cell?_alloc_mark]; rfl, h2.alloc _⟩
  | 2, _ => exact ⟨c, m3, c3, by rw [World.cell?_alloc_mark]; rfl, h3.alloc _⟩

theorem root_nil_any (w : World) : Calls Try.prog 10 #[.slice none 0 0] w fun e w' => ∃ v, e = .returned v ∧ Own w' w.heap.size v (sha []) ∧ Below w.heap.size w w' := by
  have h := root_any 0 none 0 [] w (LL.nil _) (by simp) (by omega)
  rw [mroot_nil] at h
  exact h
theorem size_al (w : World) (o : Obj) : (w.alloc o).heap.size = w.heap.size + 1 := by simp
set_option maxHeartbeats 2000000 in
set_option maxRecDepth 100000 in
theorem merk_known (w : World) : Calls Try.prog 12 #[] w fun e w' => e = .returned (.bool true) ∧ Below w.heap.size w w' := by
  have kc := fun (w : World) (C : Array Value) (n c : Nat) => Lib.run_convert_bytes_const (P := Try.prog) w 24 5 C n c Try.underlying24 Try.underlying5
  have k1 := kc w #[.int .u8 97] 1 1
  have k2 := kc (w.alloc (.cells #[.int .u8 97] TB (1, 2))) #[.int .u8 98] 1 1
  have k3 := kc ((w.alloc (.cells #[.int .u8 97] TB (1, 2))).alloc (.cells #[.int .u8 98] TB (1, 2))) #[.int .u8 99] 1 1
  have hA := Bs.lit w 97
  have hB := Bs.lit (w.alloc (.cells #[.int .u8 97] TB (1, 2))) 98
  have hC := Bs.lit ((w.alloc (.cells #[.int .u8 97] TB (1, 2))).alloc (.cells #[.int .u8 98] TB (1, 2))) 99
  have hE := (((Ext.refl w).alloc (.cells #[.int .u8 97] TB (1, 2))).alloc (.cells #[.int .u8 98] TB (1, 2))).alloc (.cells #[.int .u8 99] TB (1, 2))
  have hL := LL.three _ ((hA.alloc _).alloc _) (hB.alloc _) hC
  simp only [size_al, Nat.add_assoc, Nat.reduceAdd] at k2 k3 hL
  have HZ := Lib.hid (And.intro hE hL)
  clear hA hB hC hE hL kc
  go_enter Try.func12, Try.ntmps12
  go_upto_region 2 with fail
  clear k1 k2 k3
  have hE := HZ.out.1.alloc (.cells #[.slice (some ⟨w.heap.size, 0, none⟩) 1 1, .slice (some ⟨w.heap.size + 1, 0, none⟩) 1 1, .slice (some ⟨w.heap.size + 2, 0, none⟩) 1 1] TBS)
  have hL := HZ.out.2
  obtain ⟨w1, hw1⟩ : ∃ w1, w1 = (((w.alloc (.cells #[.int .u8 97] TB (1, 2))).alloc (.cells #[.int .u8 98] TB (1, 2))).alloc (.cells #[.int .u8 99] TB (1, 2))).alloc (.cells #[.slice (some ⟨w.heap.size, 0, none⟩) 1 1, .slice (some ⟨w.heap.size + 1, 0, none⟩) 1 1, .slice (some ⟨w.heap.size + 2, 0, none⟩) 1 1] TBS) := ⟨_, rfl⟩
  have hE : Ext w.heap.size w w1 := by rw [hw1]; exact hE
  have hL : LL w1 (some ⟨w.heap.size + 3, 0, none⟩) 3 3 ABC := by rw [hw1]; exact hL
  conv => arg 5; rw [← hw1]
  clear hw1 HZ
  have hs : ∀ x ∈ ABC, x.length ≤ 1000 := by decide
  have HS := Lib.hid hs
  clear hs
  go_wp2_with fail
  refine (mpath_yes 3 _ 3 ABC 2 w1 hL HS.out (by omega) (by omega)).mono ?_
  rintro e w2 ⟨v, rfl, hP, hb⟩
  have hL := hL.below hb
  have hE := hE.step hb
  obtain ⟨ap, cp, rfl, hPL⟩ := hP.ll (n := 1) (by rw [mpath_length]; exact dep23)
  clear hP hb
  go_wp2_with fail
  refine (root_any 3 _ 3 ABC w2 hL HS.out (by omega)).mono ?_
  rintro e w3 ⟨v, rfl, hO, hb⟩
  have hL := hL.below hb
  have hE := hE.step hb
  have hPL := hPL.below hb
  obtain ⟨ar, cr, rfl, hRt⟩ := hO.bsn (n := 32) (mroot_length _)
  obtain ⟨b, off, hbe, hbw, hc⟩ := hL.at (by omega)
  injection hbe with hbe; injection hbe with hb1 hb2
  subst hb1 hb2
  obtain ⟨al, ml, cl, hc2, hBl⟩ := hc 2 (by omega)
  have hBl : Bs w3 al ml cl [99] := hBl
  have hml : ml ≤ 1000 := by rw [← hBl.1]; decide
  have hCl : CellIs w3 (w.heap.size + 3) 2 (.slice al ml cl) := ⟨hbw, by rw [← hc2, Nat.zero_add]⟩
  have hps := mpath_shorts ABC 2
  have HC1 := Lib.hid known_yes
  have HC2 := Lib.hid known_no
  generalize mpath ABC 2 = ps at *
  generalize hrt : mroot ABC = rt at *
  have HPS := Lib.hid hps
  clear hO hb hc hc2 hL hbw hps hrt
  go_upto_region 4 with fail
  obtain ⟨wd, hwd⟩ : ∃ wd, wd = w3.drew := ⟨_, rfl⟩
  have hb : Below w3.heap.size w3 wd := by rw [hwd]; exact (Below.refl _ _).drew
  have hRt := hRt.below hb
  have hBl := hBl.below hb
  have hPL := hPL.below hb
  have hCl := hCl.below hb
  have hE := hE.step hb
  clear hb
  refine held_start (by kernel_rfl) (fun hHeld => ?_)
  rw [← hwd] at hHeld ⊢
  clear hwd
  refine held_take (i := 0) (v := ?_) 19 rfl (by kernel_rfl) (by kernel_rfl) (by kernel_rfl) (fun _ _ _ h => h) rfl (by assumption) (Or.inl ⟨by rfl, ?_⟩) ?_
  rotate_left
  · intro w hSw; go_simp; (try with_reducible rfl)
  simp only [List.set_cons_zero, List.set_cons_succ]
  refine held_take (i := 1) (v := ?_) 20 rfl (by kernel_rfl) (by kernel_rfl) (by kernel_rfl) (fun _ _ _ h => h) rfl (by assumption) (Or.inl ⟨by rfl, ?_⟩) ?_
  rotate_left
  · intro w hSw; go_simp; (try with_reducible rfl)
  simp only [List.set_cons_zero, List.set_cons_succ]
  refine held_take (i := 2) (v := ?_) 21 rfl (by kernel_rfl) (by kernel_rfl) (by kernel_rfl) (fun _ _ _ h => h) rfl (by assumption) (Or.inl ⟨by rfl, ?_⟩) ?_
  rotate_left
  · intro w hSw; go_simp; (try with_reducible rfl)
  simp only [List.set_cons_zero, List.set_cons_succ]
  refine held_take (i := 3) (v := ?_) 22 rfl (by kernel_rfl) (by kernel_rfl) (by kernel_rfl) (fun _ _ _ h => h) rfl (by assumption) (Or.inl ⟨by rfl, ?_⟩) ?_
  rotate_left
  · intro w hSw; go_simp; (try with_reducible rfl)
  simp only [List.set_cons_zero, List.set_cons_succ]
  refine held_take (i := 4) (v := ?_) 23 rfl (by kernel_rfl) (by kernel_rfl) (by kernel_rfl) (fun _ _ _ h => h) rfl (by assumption) (Or.inl ⟨by rfl, ?_⟩) ?_
  rotate_left
  · intro w hSw; go_simp; (try with_reducible rfl)
  simp only [List.set_cons_zero, List.set_cons_succ]
  refine held_take (i := 5) (v := ?_) 24 rfl (by kernel_rfl) (by kernel_rfl) (by kernel_rfl) (fun _ _ _ h => h) rfl (by assumption) (Or.inl ⟨by rfl, ?_⟩) ?_
  rotate_left
  · intro w hSw; go_simp; (try with_reducible rfl)
  simp only [List.set_cons_zero, List.set_cons_succ]
  refine held_take (i := 6) (v := ?_) 25 rfl (by kernel_rfl) (by kernel_rfl) (by kernel_rfl) (fun _ _ _ h => h) rfl (by assumption) (Or.inl ⟨by rfl, ?_⟩) ?_
  rotate_left
  · intro w hSw; go_simp; (try with_reducible rfl)
  simp only [List.set_cons_zero, List.set_cons_succ]
  refine held_take (i := 7) (v := ?_) 26 rfl (by kernel_rfl) (by kernel_rfl) (by kernel_rfl) (fun _ _ _ h => h) rfl (by assumption) (Or.inl ⟨by rfl, ?_⟩) ?_
  rotate_left
  · intro w hSw; go_simp; (try with_reducible rfl)
  simp only [List.set_cons_zero, List.set_cons_succ]
  refine held_take (i := 8) (v := ?_) 27 rfl (by kernel_rfl) (by kernel_rfl) (by kernel_rfl) (fun _ _ _ h => h) rfl (by assumption) (Or.inl ⟨by rfl, ?_⟩) ?_
  rotate_left
  · intro w hSw; go_simp; (try with_reducible rfl)
  simp only [List.set_cons_zero, List.set_cons_succ]
  refine held_take (i := 9) (v := ?_) 28 rfl (by kernel_rfl) (by kernel_rfl) (by kernel_rfl) (fun _ _ _ h => h) rfl (by assumption) (Or.inl ⟨by rfl, ?_⟩) ?_
  rotate_left
  · intro w hSw; go_simp; (try with_reducible rfl)
  simp only [List.set_cons_zero, List.set_cons_succ]
  refine held_take (i := 10) (v := ?_) 29 rfl (by kernel_rfl) (by kernel_rfl) (by kernel_rfl) (fun _ _ _ h => h) rfl (by assumption) (Or.inl ⟨by rfl, ?_⟩) ?_
  rotate_left
  · intro w hSw; go_simp; (try with_reducible rfl)
  simp only [List.set_cons_zero, List.set_cons_succ]
  refine held_take (i := 11) (v := ?_) 30 rfl (by kernel_rfl) (by kernel_rfl) (by kernel_rfl) (fun _ _ _ h => h) rfl (by assumption) (Or.inl ⟨by rfl, ?_⟩) ?_
  rotate_left
  · intro w hSw; have hc := (hCl.below hSw).2; go_simp; (try with_reducible rfl)
  simp only [List.set_cons_zero, List.set_cons_succ]
  refine held_take (i := 12) (v := ?_) 31 rfl (by kernel_rfl) (by kernel_rfl) (by kernel_rfl) (fun _ _ _ h => h) rfl (by assumption) (Or.inl ⟨by rfl, ?_⟩) ?_
  rotate_left
  · intro w hSw; go_simp; (try with_reducible rfl)
  simp only [List.set_cons_zero, List.set_cons_succ]
  refine wpAnyH_ready (rs := [13]) (by kernel_rfl) (by simp) ?_
  refine (AllReadyH.cons rfl (fun K hK => ?_) AllReadyH.nil)
  go_simp
  refine (check_eq _ _ _ _ _ _ _ _ 2 3 _ _ _ _ true _ (hRt.below hHeld) (hBl.below hHeld) (hPL.below hHeld) HPS.out (by omega) (by omega) (by omega) HC1.out).mono ?_
  rintro e w1x ⟨rfl, hb⟩
  have hbt := HB.trans hHeld hb
  have hRt := hRt.below hbt
  have hBl := hBl.below hbt
  have hPL := hPL.below hbt
  have hCl := hCl.below hbt
  have hE := hE.step hbt
  go_wp2_with fail
  refine hK.out _ _ hbt (fun _ => held_next hbt (fun hHeld2 => ?_))
  clear hK hHeld hb hbt K
  have hHeld := hHeld2
  clear hHeld2
  refine held_take (i := 14) (v := ?_) 33 rfl (by kernel_rfl) (by kernel_rfl) (by kernel_rfl) (fun _ _ _ h => h) rfl (by assumption) (Or.inl ⟨by rfl, ?_⟩) ?_
  rotate_left
  · intro w hSw; go_simp; (try with_reducible rfl)
  simp only [List.set_cons_zero, List.set_cons_succ]
  refine held_take (i := 15) (v := ?_) 34 rfl (by kernel_rfl) (by kernel_rfl) (by kernel_rfl) (fun _ _ _ h => h) rfl (by assumption) (Or.inl ⟨by rfl, ?_⟩) ?_
  rotate_left
  · intro w hSw; go_simp; (try with_reducible rfl)
  simp only [List.set_cons_zero, List.set_cons_succ]
  refine held_take (i := 16) (v := ?_) 35 rfl (by kernel_rfl) (by kernel_rfl) (by kernel_rfl) (fun _ _ _ h => h) rfl (by assumption) (Or.inl ⟨by rfl, ?_⟩) ?_
  rotate_left
  · intro w hSw; go_simp; (try with_reducible rfl)
  simp only [List.set_cons_zero, List.set_cons_succ]
  refine held_take (i := 17) (v := ?_) 36 rfl (by kernel_rfl) (by kernel_rfl) (by kernel_rfl) (fun _ _ _ h => h) rfl (by assumption) (Or.inl ⟨by rfl, ?_⟩) ?_
  rotate_left
  · intro w hSw; go_simp; (try with_reducible rfl)
  simp only [List.set_cons_zero, List.set_cons_succ]
  refine held_take (i := 18) (v := ?_) 37 rfl (by kernel_rfl) (by kernel_rfl) (by kernel_rfl) (fun _ _ _ h => h) rfl (by assumption) (Or.inl ⟨by rfl, ?_⟩) ?_
  rotate_left
  · intro w hSw; go_simp; (try with_reducible rfl)
  simp only [List.set_cons_zero, List.set_cons_succ]
  refine held_take (i := 19) (v := ?_) 38 rfl (by kernel_rfl) (by kernel_rfl) (by kernel_rfl) (fun _ _ _ h => h) rfl (by assumption) (Or.inl ⟨by rfl, ?_⟩) ?_
  rotate_left
  · intro w hSw; have hc := (hCl.below hSw).2; go_simp; (try with_reducible rfl)
  simp only [List.set_cons_zero, List.set_cons_succ]
  refine held_take (i := 20) (v := ?_) 39 rfl (by kernel_rfl) (by kernel_rfl) (by kernel_rfl) (fun _ _ _ h => h) rfl (by assumption) (Or.inl ⟨by rfl, ?_⟩) ?_
  rotate_left
  · intro w hSw; go_simp; (try with_reducible rfl)
  simp only [List.set_cons_zero, List.set_cons_succ]
  refine wpAnyH_ready (rs := [21]) (by kernel_rfl) (by simp) ?_
  refine (AllReadyH.cons rfl (fun K hK => ?_) AllReadyH.nil)
  go_simp
  refine (check_eq _ _ _ _ _ _ _ _ 1 3 _ _ _ _ false _ (hRt.below hHeld) (hBl.below hHeld) (hPL.below hHeld) HPS.out (by omega) (by omega) (by omega) HC2.out).mono ?_
  rintro e w2x ⟨rfl, hb⟩
  have hbt := HB.trans hHeld hb
  have hRt := hRt.below hbt
  have hBl := hBl.below hbt
  have hPL := hPL.below hbt
  have hCl := hCl.below hbt
  have hE := hE.step hbt
  go_wp2_with fail
  refine hK.out _ _ hbt (fun _ => held_next hbt (fun hHeld2 => ?_))
  clear hK hHeld hb hbt K
  have hHeld := hHeld2
  clear hHeld2
  refine held_take (i := 22) (v := ?_) 41 rfl (by kernel_rfl) (by kernel_rfl) (by kernel_rfl) (fun _ _ _ h => h) rfl (by assumption) (Or.inl ⟨by rfl, ?_⟩) ?_
  rotate_left
  · intro w hSw; go_simp; (try with_reducible rfl)
  simp only [List.set_cons_zero, List.set_cons_succ]
  refine held_take (i := 23) (v := ?_) 42 rfl (by kernel_rfl) (by kernel_rfl) (by kernel_rfl) (fun _ _ _ h => h) rfl (by assumption) (Or.inl ⟨by rfl, ?_⟩) ?_
  rotate_left
  · intro w hSw; go_simp; (try with_reducible rfl)
  simp only [List.set_cons_zero, List.set_cons_succ]
  refine held_take (i := 24) (v := ?_) 43 rfl (by kernel_rfl) (by kernel_rfl) (by kernel_rfl) (fun _ _ _ h => h) rfl (by assumption) (Or.inl ⟨by rfl, ?_⟩) ?_
  rotate_left
  · intro w hSw; go_simp; (try with_reducible rfl)
  simp only [List.set_cons_zero, List.set_cons_succ]
  refine wpAnyH_ready (rs := [25]) (by kernel_rfl) (by simp) ?_
  refine (AllReadyH.cons rfl (fun K hK => ?_) AllReadyH.nil)
  go_simp
  refine (root_nil_any _).mono ?_
  rintro e w3x ⟨v24, rfl, ho24, hb⟩
  have hbt := HB.trans hHeld hb
  have hRt := hRt.below hbt
  have hBl := hBl.below hbt
  have hPL := hPL.below hbt
  have hCl := hCl.below hbt
  have hE := hE.step hbt
  obtain ⟨a24, c24, rfl, hB24⟩ := ho24.bsn (n := 32) (sha_length _)
  go_wp2_with fail
  refine hK.out _ _ hbt (fun _ => held_next hbt (fun hHeld2 => ?_))
  clear hK hHeld hb hbt K
  have hHeld := hHeld2
  clear hHeld2
  refine held_take (i := 26) (v := ?_) 45 rfl (by kernel_rfl) (by kernel_rfl) (by kernel_rfl) (fun _ _ _ h => h) rfl (by assumption) (Or.inl ⟨by rfl, ?_⟩) ?_
  rotate_left
  · intro w hSw; have hs := run_string (hB24.below hSw); go_simp; (try with_reducible rfl)
  simp only [List.set_cons_zero, List.set_cons_succ]
  refine wpAnyH_ready (rs := [27]) (by kernel_rfl) (by simp) ?_
  refine (AllReadyH.cons rfl (fun K hK => ?_) AllReadyH.nil)
  go_simp
  refine (rsum_any none 0 0 [] _ (Bs.nil _) (by omega)).mono ?_
  rintro e w4x ⟨v26, rfl, ho26, hb⟩
  have hbt := HB.trans hHeld hb
  have hRt := hRt.below hbt
  have hBl := hBl.below hbt
  have hPL := hPL.below hbt
  have hCl := hCl.below hbt
  have hE := hE.step hbt
  have hB24 := hB24.below hbt
  obtain ⟨a26, c26, rfl, hB26⟩ := ho26.bsn (n := 32) (sha_length _)
  go_wp2_with fail
  refine hK.out _ _ hbt (fun _ => held_next hbt (fun hHeld2 => ?_))
  clear hK hHeld hb hbt K
  have hHeld := hHeld2
  clear hHeld2
  refine held_take (i := 28) (v := ?_) 47 rfl (by kernel_rfl) (by kernel_rfl) (by kernel_rfl) (fun _ _ _ h => h) rfl (by assumption) (Or.inl ⟨by rfl, ?_⟩) ?_
  rotate_left
  · intro w hSw; have hs := run_string (hB26.below hSw); go_simp; (try with_reducible rfl)
  simp only [List.set_cons_zero, List.set_cons_succ]
  refine held_take (i := 29) (v := ?_) 48 rfl (by kernel_rfl) (by kernel_rfl) (by kernel_rfl) (fun _ _ _ h => h) rfl (by assumption) (Or.inl ⟨by rfl, ?_⟩) ?_
  rotate_left
  · intro w hSw; go_simp; (try with_reducible rfl)
  simp only [List.set_cons_zero, List.set_cons_succ]
  refine held_take (i := 30) (v := ?_) 49 rfl (by kernel_rfl) (by kernel_rfl) (by kernel_rfl) (fun _ _ _ h => h) rfl (by assumption) (Or.inl ⟨by rfl, ?_⟩) ?_
  rotate_left
  · intro w hSw; go_simp; (try with_reducible rfl)
  simp only [List.set_cons_zero, List.set_cons_succ]
  refine held_take (i := 31) (v := ?_) 0 rfl (by kernel_rfl) (by kernel_rfl) (by kernel_rfl) (fun _ _ _ h => h) rfl (by assumption) (Or.inl ⟨by rfl, ?_⟩) ?_
  rotate_left
  · intro w hSw; go_simp; (try with_reducible rfl)
  simp only [List.set_cons_zero]
  refine wpAnyH_done (by kernel_rfl) ?_ _
  go_wp2_with fail
  go_ret
  exact ⟨rfl, (hE.step hHeld).1⟩
end Go.Proofs.Ytaomkjnkfkahhaa
