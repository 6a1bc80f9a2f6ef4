/- The contracts of permafrostref6.Path and sub. -/
import Derived.Test.YtaomkjnkfkahhaaMerkB
import Derived.Test.YtaomkjnkfkahhaaMerkC
namespace Go.Proofs.Ytaomkjnkfkahhaa
open Go.RowKit


set_option maxHeartbeats 2000000 in
set_option maxRecDepth 100000 in
theorem rpath_any (n : Nat) : ∀ (a : Option Addr) (cap : Nat) (ls : List (List UInt8)) (i : Nat) (w : World), LL w a n cap ls → (∀ x ∈ ls, x.length ≤ 1000) → n ≤ 64 → i < n →
    Calls Try.prog 19 #[.slice a n cap, .int .i64 (i : Int)] w fun e w' => ∃ v, e = .returned v ∧ OwnL w' w.heap.size v (mpath ls i) ∧ Below w.heap.size w w' := by
  induction n using Nat.strongRecOn with
  | _ n ih =>
  intro a cap ls i w hL hx hn hi
  have IH := Lib.hid ih
  clear ih
  have HX := Lib.hid hx
  clear hx
  by_cases h0 : n < 2
  · have hR : mpath ls i = [] := by rw [mpath, if_pos (by rw [hL.1]; exact h0)]
    rw [hR]
    clear hR hL
    have g0 : (n : Int) < 2 := by omega
    go_enter Try.func19, Try.ntmps19
    go_wp2_with fail
    go_ret
    exact ⟨_, rfl, OwnL.nil _ _, Below.refl _ _⟩
  · have hzz : True := trivial
    clear hzz
    have hp := mpart_spec (n := n) (by omega)
    have hll := hL.1
    have hcap := hL.2.1
    have hx1 : ∀ x ∈ ls.take (mpart n), x.length ≤ 1000 := fun x h => HX.out x (List.mem_of_mem_take h)
    have hx2 : ∀ x ∈ ls.drop (mpart n), x.length ≤ 1000 := fun x h => HX.out x (List.mem_of_mem_drop h)
    have hT := hL.take (k := mpart n) (by omega)
    have hD := hL.drop (k := mpart n) (by omega)
    obtain ⟨ad, had⟩ : ∃ ad, (if cap = mpart n then a else a.map (·.add (mpart n))) = ad := ⟨_, rfl⟩
    rw [had] at hD
    have HT := Lib.hid hT
    have HD := Lib.hid hD
    have HP := Lib.hid hp
    have HLL := Lib.hid hll
    have e1 : (0 : Int) ≤ ((mpart n : Nat) : Int) := by omega
    have e2 : ((mpart n : Nat) : Int) ≤ (n : Int) := by omega
    have e3 : ((mpart n : Nat) : Int) ≤ (cap : Int) := by omega
    have e4 : mpart n ≤ n := by omega
    have e5 : mpart n ≤ cap := by omega
    clear hT hD hp hL hll
    have HPA := Lib.hid (fun W => rpart_any n W (by omega))
    have g0 : ¬ (n : Int) < 2 := by omega
    by_cases hlt : i < mpart n
    · have HR : Hid (mpath ls i = mpath (ls.take (mpart n)) i ++ [mroot (ls.drop (mpart n))]) := Lib.hid (by rw [mpath, HLL.out, if_neg (by omega), if_pos hlt])
      have HML : Hid ((mpath (ls.take (mpart n)) i).length + 1 ≤ 100) := Lib.hid (by rw [mpath_length, List.length_take, HLL.out, Nat.min_eq_left e4]; have := dep_le 6 i (mpart n) (by omega); omega)
      have f1 : (i : Int) < ((mpart n : Nat) : Int) := by omega
      go_enter Try.func19, Try.ntmps19
      go_wp2_with fail
      refine (HPA.out _).mono ?_
      rintro e wq ⟨rfl, rfl⟩
      go_upto_region 5 with fail
      obtain ⟨wd, hwd⟩ : ∃ wd, wd = w.drew := ⟨_, rfl⟩
      have hb : Below w.heap.size w wd := by rw [hwd]; exact (Below.refl _ _).drew
      clear hb
      refine held_start (by kernel_rfl) (fun hHeld => ?_)
      rw [← hwd] at hHeld ⊢
      have HWD := Lib.hid (show Below w.heap.size w wd by rw [hwd]; exact (Below.refl _ _).drew)
      have hT := HT.out.below HWD.out
      have hD := HD.out.below HWD.out
      clear hwd
      refine held_take (i := 0) (v := ?_) 15 rfl (by kernel_rfl) (by kernel_rfl) (by kernel_rfl) (fun _ _ _ h => h) rfl (by assumption) (Or.inl ⟨by rfl, ?_⟩) ?_
      rotate_left
      · intro w hSw; go_simp; (try with_reducible rfl)
      simp only [List.set_cons_zero, List.set_cons_succ]
      refine held_take (i := 1) (v := ?_) 16 rfl (by kernel_rfl) (by kernel_rfl) (by kernel_rfl) (fun _ _ _ h => h) rfl (by assumption) (Or.inl ⟨by rfl, ?_⟩) ?_
      rotate_left
      · intro w hSw; go_simp; (try with_reducible rfl)
      simp only [List.set_cons_zero, List.set_cons_succ]
      refine held_take (i := 2) (v := ?_) 17 rfl (by kernel_rfl) (by kernel_rfl) (by kernel_rfl) (fun _ _ _ h => h) rfl (by assumption) (Or.inl ⟨by rfl, ?_⟩) ?_
      rotate_left
      · intro w hSw; go_simp; (try with_reducible rfl)
      simp only [List.set_cons_zero, List.set_cons_succ]
      refine held_take (i := 3) (v := ?_) 18 rfl (by kernel_rfl) (by kernel_rfl) (by kernel_rfl) (fun _ _ _ h => h) rfl (by assumption) (Or.inl ⟨by rfl, ?_⟩) ?_
      rotate_left
      · intro w hSw; go_simp; (try with_reducible rfl)
      simp only [List.set_cons_zero, List.set_cons_succ]
      refine held_take (i := 5) (v := ?_) 20 rfl (by kernel_rfl) (by kernel_rfl) (by kernel_rfl) (fun _ _ _ h => h) rfl (by assumption) (Or.inl ⟨by rfl, ?_⟩) ?_
      rotate_left
      · intro w hSw; go_simp; (try with_reducible rfl)
      simp only [List.set_cons_zero, List.set_cons_succ]
      refine held_take (i := 6) (v := ?_) 21 rfl (by kernel_rfl) (by kernel_rfl) (by kernel_rfl) (fun _ _ _ h => h) rfl (by assumption) (Or.inl ⟨by rfl, ?_⟩) ?_
      rotate_left
      · intro w hSw; go_simp; (try with_reducible rfl)
      simp only [List.set_cons_zero, List.set_cons_succ]
      refine held_take (i := 7) (v := ?_) 22 rfl (by kernel_rfl) (by kernel_rfl) (by kernel_rfl) (fun _ _ _ h => h) rfl (by assumption) (Or.inl ⟨by rfl, ?_⟩) ?_
      rotate_left
      · intro w hSw; go_simp; (try with_reducible rfl)
      simp only [List.set_cons_zero, List.set_cons_succ]
      refine wpAnyH_ready (rs := [4]) (by kernel_rfl) (by simp) ?_
      refine (AllReadyH.cons rfl (fun K hK => ?_) AllReadyH.nil)
      go_simp
      refine (IH.out (mpart n) (by have := HP.out; omega) _ _ _ i _ (hT.below hHeld) hx1 (by omega) hlt).mono ?_
      rintro e w1x ⟨v1, rfl, hP0, hb⟩
      have hbt := HB.trans hHeld hb
      have hP1 := hP0.weaken (B := wd.heap.size) (Below.size hHeld)
      have hPl := hP0.lt
      clear hP0
      go_wp2_with fail
      refine hK.out _ _ hbt (fun _ => ?_)
      clear hK hHeld K
      have hHeld := hbt
      clear hb hbt
      refine wpAnyH_ready (rs := [8]) (by kernel_rfl) (by simp) ?_
      refine (AllReadyH.cons rfl (fun K hK => ?_) AllReadyH.nil)
      go_simp
      refine (rroot_any (n - mpart n) _ _ _ _ (hD.below hHeld) hx2 (by omega)).mono ?_
      rintro e w2x ⟨v2, rfl, hO2, hb⟩
      have hbt := HB.trans hHeld hb
      have hP1 := hP1.below hb
      obtain ⟨a2, c2, rfl, hB2⟩ := hO2.bsn (n := 32) (mroot_length _)
      have hap : 0 < 32 → ∀ x, a2 = some x → v1.ownBlock ≠ some x.block := fun _ x hx e => by have := hO2.new_blk x hx; have := (hPl _ e).2; omega
      have hsz := Below.size hbt
      clear hO2 hPl
      go_wp2_with fail
      refine hK.out _ _ hbt (fun _ => ?_)
      clear hK hHeld K
      have hHeld := hbt
      refine wpAnyH_ready (rs := [9]) (by kernel_rfl) (by simp) ?_
      refine (AllReadyH.cons rfl (fun K hK => ?_) AllReadyH.nil)
      go_simp
      have hb : HB w2x (w2x.alloc (.cells #[.slice a2 32 c2] TBS)) := (HB.refl _).alloc _
      have hbt := HB.trans hHeld hb
      refine hK.out _ _ hbt (fun _ => ?_)
      clear hK hHeld K
      have hHeld := hbt
      clear hb hbt
      refine wpAnyH_ready (rs := [10]) (by kernel_rfl) (by simp) ?_
      refine (AllReadyH.cons rfl (fun K hK => ?_) AllReadyH.nil)
      refine step_append_row (by rfl) (.tmp 19) (.tmp 24) rfl ?_ wd.heap.size v1 _ ?_ hP1 _ _ _ _ hB2 hap (by have := HML.out; omega) hsz (fun v3 w4x hO3 hg => ?_)
      rfl
      rfl
      have hbt : HB wd w4x := Below.grown hHeld hg (Below.size hHeld) (fun k hk => (hP1.lt k hk).1)
      clear hg
      go_wp2_with fail
      refine hK.out _ _ hbt (fun _ => ?_)
      clear hK hHeld K
      have hHeld := hbt
      clear hbt
      refine held_take (i := 11) (v := ?_) 4 rfl (by kernel_rfl) (by kernel_rfl) (by kernel_rfl) (fun _ _ _ h => h) rfl (by assumption) (Or.inl ⟨by rfl, ?_⟩) ?_
      rotate_left
      · intro w hSw; go_simp; (try with_reducible rfl)
      simp only [List.set_cons_zero, List.set_cons_succ]
      refine wpAnyH_done (by kernel_rfl) ?_ _
      go_wp2_with fail
      go_ret
      rw [HR.out]
      exact ⟨_, rfl, hO3.weaken (Below.size HWD.out), Below.trans HWD.out (Below.mono hHeld (Below.size HWD.out))⟩
    · have HR : Hid (mpath ls i = mpath (ls.drop (mpart n)) (i - mpart n) ++ [mroot (ls.take (mpart n))]) := Lib.hid (by rw [mpath, HLL.out, if_neg (by omega), if_neg hlt])
      have hML : (mpath (ls.drop (mpart n)) (i - mpart n)).length + 1 ≤ 100 := by rw [mpath_length, List.length_drop, HLL.out]; have := dep_le 6 (i - mpart n) (n - mpart n) (by omega); omega
      have HML := Lib.hid hML
      obtain ⟨J, hJ⟩ : ∃ J, J = i - mpart n := ⟨_, rfl⟩
      have i3 : IntKind.i64.wrap ((i : Int) - ((mpart n : Nat) : Int)) = (J : Int) := by rw [IntWalk.i64_in _ (by omega)]; omega
      rw [← hJ] at HR HML
      have HJ : Hid (J + mpart n = i) := Lib.hid (by omega)
      clear hJ hML
      have f1 : ¬ (i : Int) < ((mpart n : Nat) : Int) := by omega
      go_enter Try.func19, Try.ntmps19
      go_wp2_with fail
      refine (HPA.out _).mono ?_
      rintro e wq ⟨rfl, rfl⟩
      go_upto_region 6 with fail
      obtain ⟨wd, hwd⟩ : ∃ wd, wd = w.drew := ⟨_, rfl⟩
      have hb : Below w.heap.size w wd := by rw [hwd]; exact (Below.refl _ _).drew
      clear hb
      refine held_start (by kernel_rfl) (fun hHeld => ?_)
      rw [← hwd] at hHeld ⊢
      have HWD := Lib.hid (show Below w.heap.size w wd by rw [hwd]; exact (Below.refl _ _).drew)
      have hT := HT.out.below HWD.out
      have hD := HD.out.below HWD.out
      clear hwd
      refine held_take (i := 0) (v := ?_) 26 rfl (by kernel_rfl) (by kernel_rfl) (by kernel_rfl) (fun _ _ _ h => h) rfl (by assumption) (Or.inl ⟨by rfl, ?_⟩) ?_
      rotate_left
      · intro w hSw; go_simp; (try with_reducible rfl)
      simp only [List.set_cons_zero, List.set_cons_succ]
      refine held_take (i := 1) (v := ?_) 27 rfl (by kernel_rfl) (by kernel_rfl) (by kernel_rfl) (fun _ _ _ h => h) rfl (by assumption) (Or.inl ⟨by rfl, ?_⟩) ?_
      rotate_left
      · intro w hSw; go_simp; (try with_reducible rfl)
      simp only [List.set_cons_zero, List.set_cons_succ]
      refine held_take (i := 2) (v := ?_) 28 rfl (by kernel_rfl) (by kernel_rfl) (by kernel_rfl) (fun _ _ _ h => h) rfl (by assumption) (Or.inl ⟨by rfl, ?_⟩) ?_
      rotate_left
      · intro w hSw; go_simp; (try with_reducible rfl)
      simp only [List.set_cons_zero, List.set_cons_succ]
      refine held_take (i := 3) (v := ?_) 29 rfl (by kernel_rfl) (by kernel_rfl) (by kernel_rfl) (fun _ _ _ h => h) rfl (by assumption) (Or.inl ⟨by rfl, ?_⟩) ?_
      rotate_left
      · intro w hSw; go_simp; (try with_reducible rfl)
      simp only [List.set_cons_zero, List.set_cons_succ]
      refine held_take (i := 4) (v := ?_) 30 rfl (by kernel_rfl) (by kernel_rfl) (by kernel_rfl) (fun _ _ _ h => h) rfl (by assumption) (Or.inl ⟨by rfl, ?_⟩) ?_
      rotate_left
      · intro w hSw; go_simp; (try with_reducible rfl)
      simp only [List.set_cons_zero, List.set_cons_succ]
      refine held_take (i := 5) (v := ?_) 31 rfl (by kernel_rfl) (by kernel_rfl) (by kernel_rfl) (fun _ _ _ h => h) rfl (by assumption) (Or.inl ⟨by rfl, ?_⟩) ?_
      rotate_left
      · intro w hSw; go_simp; (try with_reducible rfl)
      simp only [List.set_cons_zero, List.set_cons_succ]
      refine held_take (i := 7) (v := ?_) 33 rfl (by kernel_rfl) (by kernel_rfl) (by kernel_rfl) (fun _ _ _ h => h) rfl (by assumption) (Or.inl ⟨by rfl, ?_⟩) ?_
      rotate_left
      · intro w hSw; go_simp; (try with_reducible rfl)
      simp only [List.set_cons_zero, List.set_cons_succ]
      refine held_take (i := 8) (v := ?_) 34 rfl (by kernel_rfl) (by kernel_rfl) (by kernel_rfl) (fun _ _ _ h => h) rfl (by assumption) (Or.inl ⟨by rfl, ?_⟩) ?_
      rotate_left
      · intro w hSw; go_simp; (try with_reducible rfl)
      simp only [List.set_cons_zero, List.set_cons_succ]
      refine held_take (i := 9) (v := ?_) 35 rfl (by kernel_rfl) (by kernel_rfl) (by kernel_rfl) (fun _ _ _ h => h) rfl (by assumption) (Or.inl ⟨by rfl, ?_⟩) ?_
      rotate_left
      · intro w hSw; go_simp; (try with_reducible rfl)
      simp only [List.set_cons_zero, List.set_cons_succ]
      refine wpAnyH_ready (rs := [6]) (by kernel_rfl) (by simp) ?_
      refine (AllReadyH.cons rfl (fun K hK => ?_) AllReadyH.nil)
      go_simp
      refine (IH.out (n - mpart n) (by have := HP.out; omega) _ _ _ J _ (hD.below hHeld) hx2 (by omega) (by have := HJ.out; omega)).mono ?_
      rintro e w1x ⟨v1, rfl, hP0, hb⟩
      have hbt := HB.trans hHeld hb
      have hP1 := hP0.weaken (B := wd.heap.size) (Below.size hHeld)
      have hPl := hP0.lt
      clear hP0
      go_wp2_with fail
      refine hK.out _ _ hbt (fun _ => ?_)
      clear hK hHeld K
      have hHeld := hbt
      clear hb hbt
      refine wpAnyH_ready (rs := [10]) (by kernel_rfl) (by simp) ?_
      refine (AllReadyH.cons rfl (fun K hK => ?_) AllReadyH.nil)
      go_simp
      refine (rroot_any (mpart n) _ _ _ _ (hT.below hHeld) hx1 (by omega)).mono ?_
      rintro e w2x ⟨v2, rfl, hO2, hb⟩
      have hbt := HB.trans hHeld hb
      have hP1 := hP1.below hb
      obtain ⟨a2, c2, rfl, hB2⟩ := hO2.bsn (n := 32) (mroot_length _)
      have hap : 0 < 32 → ∀ x, a2 = some x → v1.ownBlock ≠ some x.block := fun _ x hx e => by have := hO2.new_blk x hx; have := (hPl _ e).2; omega
      have hsz := Below.size hbt
      clear hO2 hPl
      go_wp2_with fail
      refine hK.out _ _ hbt (fun _ => ?_)
      clear hK hHeld K
      have hHeld := hbt
      refine wpAnyH_ready (rs := [11]) (by kernel_rfl) (by simp) ?_
      refine (AllReadyH.cons rfl (fun K hK => ?_) AllReadyH.nil)
      go_simp
      have hb : HB w2x (w2x.alloc (.cells #[.slice a2 32 c2] TBS)) := (HB.refl _).alloc _
      have hbt := HB.trans hHeld hb
      refine hK.out _ _ hbt (fun _ => ?_)
      clear hK hHeld K
      have hHeld := hbt
      clear hb hbt
      refine wpAnyH_ready (rs := [12]) (by kernel_rfl) (by simp) ?_
      refine (AllReadyH.cons rfl (fun K hK => ?_) AllReadyH.nil)
      refine step_append_row (by rfl) (.tmp 32) (.tmp 37) rfl ?_ wd.heap.size v1 _ ?_ hP1 _ _ _ _ hB2 hap (by have := HML.out; omega) hsz (fun v3 w4x hO3 hg => ?_)
      rfl
      rfl
      have hbt : HB wd w4x := Below.grown hHeld hg (Below.size hHeld) (fun k hk => (hP1.lt k hk).1)
      clear hg
      go_wp2_with fail
      refine hK.out _ _ hbt (fun _ => ?_)
      clear hK hHeld K
      have hHeld := hbt
      clear hbt
      refine held_take (i := 13) (v := ?_) 4 rfl (by kernel_rfl) (by kernel_rfl) (by kernel_rfl) (fun _ _ _ h => h) rfl (by assumption) (Or.inl ⟨by rfl, ?_⟩) ?_
      rotate_left
      · intro w hSw; go_simp; (try with_reducible rfl)
      simp only [List.set_cons_zero, List.set_cons_succ]
      refine wpAnyH_done (by kernel_rfl) ?_ _
      go_wp2_with fail
      go_ret
      rw [HR.out]
      exact ⟨_, rfl, hO3.weaken (Below.size HWD.out), Below.trans HWD.out (Below.mono hHeld (Below.size HWD.out))⟩

set_option maxHeartbeats 2000000 in
set_option maxRecDepth 100000 in
theorem rsub_any (n : Nat) : ∀ (a : Option Addr) (cap : Nat) (ls : List (List UInt8)) (m : Nat) (b : Bool) (w : World), LL w a n cap ls → (∀ x ∈ ls, x.length ≤ 1000) → n ≤ 64 → 1 ≤ m → m ≤ n →
    Calls Try.prog 37 #[.slice a n cap, .int .i64 (m : Int), .bool b] w fun e w' => ∃ v, e = .returned v ∧ OwnL w' w.heap.size v (mgrown ls m b) ∧ Below w.heap.size w w' := by
  induction n using Nat.strongRecOn with
  | _ n ih =>
  intro a cap ls m b w hL hx hn hm1 hmn
  have IH := Lib.hid ih
  clear ih
  have HX := Lib.hid hx
  clear hx
  by_cases h0 : m = n
  · subst h0
    have hll := hL.1
    have HG : Hid (mgrown ls m b = if b then [] else [mroot ls]) := Lib.hid (by rw [mgrown, if_pos hll.symm])
    have HRT := Lib.hid (rroot_any m a cap ls w hL HX.out (by omega))
    clear hll hL
    cases b with
    | true =>
      go_enter Try.func37, Try.ntmps37
      go_wp2_with fail
      go_ret
      rw [HG.out]
      exact ⟨_, rfl, OwnL.nil _ _, Below.refl _ _⟩
    | false =>
      go_enter Try.func37, Try.ntmps37
      go_wp2_with fail
      refine HRT.out.mono ?_
      rintro e w1 ⟨v, rfl, hO, hb⟩
      obtain ⟨a2, c2, rfl, hB2⟩ := hO.bsn (n := 32) (mroot_length _)
      have hO3 := OwnL.one w1 hB2
      have hE := ((Ext.refl w).step hb).alloc (.cells #[.slice a2 32 c2] TBS)
      clear hO hB2
      go_wp2_with fail
      go_ret
      rw [HG.out]
      exact ⟨_, rfl, hO3.weaken (Below.size hb), hE.1⟩
  · have hzz : True := trivial
    clear hzz
    have hp := mpart_spec (n := n) (by omega)
    have hll := hL.1
    have hcap := hL.2.1
    have hx1 : ∀ x ∈ ls.take (mpart n), x.length ≤ 1000 := fun x h => HX.out x (List.mem_of_mem_take h)
    have hx2 : ∀ x ∈ ls.drop (mpart n), x.length ≤ 1000 := fun x h => HX.out x (List.mem_of_mem_drop h)
    have hT := hL.take (k := mpart n) (by omega)
    have hD := hL.drop (k := mpart n) (by omega)
    obtain ⟨ad, had⟩ : ∃ ad, (if cap = mpart n then a else a.map (·.add (mpart n))) = ad := ⟨_, rfl⟩
    rw [had] at hD
    have HT := Lib.hid hT
    have HD := Lib.hid hD
    have HP := Lib.hid hp
    have HLL := Lib.hid hll
    have e1 : (0 : Int) ≤ ((mpart n : Nat) : Int) := by omega
    have e2 : ((mpart n : Nat) : Int) ≤ (n : Int) := by omega
    have e3 : ((mpart n : Nat) : Int) ≤ (cap : Int) := by omega
    have e4 : mpart n ≤ n := by omega
    have e5 : mpart n ≤ cap := by omega
    clear hT hD hp hL hll
    have HPA := Lib.hid (fun W => rpart_any n W (by omega))
    have g0 : ((m : Int) == (n : Int)) = false := by rw [beq_eq_false_iff_ne]; omega
    by_cases hlt : m ≤ mpart n
    · have HR : Hid (mgrown ls m b = mgrown (ls.take (mpart n)) m b ++ [mroot (ls.drop (mpart n))]) := Lib.hid (by rw [mgrown, HLL.out, if_neg h0, if_neg (by omega), if_pos hlt])
      have HML : Hid ((mgrown (ls.take (mpart n)) m b).length + 1 ≤ 100) := Lib.hid (by rw [mgrown_length, List.length_take, HLL.out, Nat.min_eq_left e4]; have := gdep_le 6 m (mpart n) b (by omega); omega)
      have f1 : (m : Int) ≤ ((mpart n : Nat) : Int) := by omega
      go_enter Try.func37, Try.ntmps37
      go_wp2_with fail
      refine (HPA.out _).mono ?_
      rintro e wq ⟨rfl, rfl⟩
      go_upto_region 8 with fail
      obtain ⟨wd, hwd⟩ : ∃ wd, wd = w.drew := ⟨_, rfl⟩
      have hb : Below w.heap.size w wd := by rw [hwd]; exact (Below.refl _ _).drew
      clear hb
      refine held_start (by kernel_rfl) (fun hHeld => ?_)
      rw [← hwd] at hHeld ⊢
      have HWD := Lib.hid (show Below w.heap.size w wd by rw [hwd]; exact (Below.refl _ _).drew)
      have hT := HT.out.below HWD.out
      have hD := HD.out.below HWD.out
      clear hwd
      refine held_take (i := 0) (v := ?_) 23 rfl (by kernel_rfl) (by kernel_rfl) (by kernel_rfl) (fun _ _ _ h => h) rfl (by assumption) (Or.inl ⟨by rfl, ?_⟩) ?_
      rotate_left
      · intro w hSw; go_simp; (try with_reducible rfl)
      simp only [List.set_cons_zero, List.set_cons_succ]
      refine held_take (i := 1) (v := ?_) 24 rfl (by kernel_rfl) (by kernel_rfl) (by kernel_rfl) (fun _ _ _ h => h) rfl (by assumption) (Or.inl ⟨by rfl, ?_⟩) ?_
      rotate_left
      · intro w hSw; go_simp; (try with_reducible rfl)
      simp only [List.set_cons_zero, List.set_cons_succ]
      refine held_take (i := 2) (v := ?_) 25 rfl (by kernel_rfl) (by kernel_rfl) (by kernel_rfl) (fun _ _ _ h => h) rfl (by assumption) (Or.inl ⟨by rfl, ?_⟩) ?_
      rotate_left
      · intro w hSw; go_simp; (try with_reducible rfl)
      simp only [List.set_cons_zero, List.set_cons_succ]
      refine held_take (i := 3) (v := ?_) 26 rfl (by kernel_rfl) (by kernel_rfl) (by kernel_rfl) (fun _ _ _ h => h) rfl (by assumption) (Or.inl ⟨by rfl, ?_⟩) ?_
      rotate_left
      · intro w hSw; go_simp; (try with_reducible rfl)
      simp only [List.set_cons_zero, List.set_cons_succ]
      refine held_take (i := 4) (v := ?_) 27 rfl (by kernel_rfl) (by kernel_rfl) (by kernel_rfl) (fun _ _ _ h => h) rfl (by assumption) (Or.inl ⟨by rfl, ?_⟩) ?_
      rotate_left
      · intro w hSw; go_simp; (try with_reducible rfl)
      simp only [List.set_cons_zero, List.set_cons_succ]
      refine held_take (i := 6) (v := ?_) 29 rfl (by kernel_rfl) (by kernel_rfl) (by kernel_rfl) (fun _ _ _ h => h) rfl (by assumption) (Or.inl ⟨by rfl, ?_⟩) ?_
      rotate_left
      · intro w hSw; go_simp; (try with_reducible rfl)
      simp only [List.set_cons_zero, List.set_cons_succ]
      refine held_take (i := 7) (v := ?_) 30 rfl (by kernel_rfl) (by kernel_rfl) (by kernel_rfl) (fun _ _ _ h => h) rfl (by assumption) (Or.inl ⟨by rfl, ?_⟩) ?_
      rotate_left
      · intro w hSw; go_simp; (try with_reducible rfl)
      simp only [List.set_cons_zero, List.set_cons_succ]
      refine held_take (i := 8) (v := ?_) 31 rfl (by kernel_rfl) (by kernel_rfl) (by kernel_rfl) (fun _ _ _ h => h) rfl (by assumption) (Or.inl ⟨by rfl, ?_⟩) ?_
      rotate_left
      · intro w hSw; go_simp; (try with_reducible rfl)
      simp only [List.set_cons_zero, List.set_cons_succ]
      refine wpAnyH_ready (rs := [5]) (by kernel_rfl) (by simp) ?_
      refine (AllReadyH.cons rfl (fun K hK => ?_) AllReadyH.nil)
      go_simp
      refine (IH.out (mpart n) (by have := HP.out; omega) _ _ _ m b _ (hT.below hHeld) hx1 (by omega) hm1 hlt).mono ?_
      rintro e w1x ⟨v1, rfl, hP0, hb⟩
      have hbt := HB.trans hHeld hb
      have hP1 := hP0.weaken (B := wd.heap.size) (Below.size hHeld)
      have hPl := hP0.lt
      clear hP0
      go_wp2_with fail
      refine hK.out _ _ hbt (fun _ => ?_)
      clear hK hHeld K
      have hHeld := hbt
      clear hb hbt
      refine wpAnyH_ready (rs := [9]) (by kernel_rfl) (by simp) ?_
      refine (AllReadyH.cons rfl (fun K hK => ?_) AllReadyH.nil)
      go_simp
      refine (rroot_any (n - mpart n) _ _ _ _ (hD.below hHeld) hx2 (by omega)).mono ?_
      rintro e w2x ⟨v2, rfl, hO2, hb⟩
      have hbt := HB.trans hHeld hb
      have hP1 := hP1.below hb
      obtain ⟨a2, c2, rfl, hB2⟩ := hO2.bsn (n := 32) (mroot_length _)
      have hap : 0 < 32 → ∀ x, a2 = some x → v1.ownBlock ≠ some x.block := fun _ x hx e => by have := hO2.new_blk x hx; have := (hPl _ e).2; omega
      have hsz := Below.size hbt
      clear hO2 hPl
      go_wp2_with fail
      refine hK.out _ _ hbt (fun _ => ?_)
      clear hK hHeld K
      have hHeld := hbt
      refine wpAnyH_ready (rs := [10]) (by kernel_rfl) (by simp) ?_
      refine (AllReadyH.cons rfl (fun K hK => ?_) AllReadyH.nil)
      go_simp
      have hb : HB w2x (w2x.alloc (.cells #[.slice a2 32 c2] TBS)) := (HB.refl _).alloc _
      have hbt := HB.trans hHeld hb
      refine hK.out _ _ hbt (fun _ => ?_)
      clear hK hHeld K
      have hHeld := hbt
      clear hb hbt
      refine wpAnyH_ready (rs := [11]) (by kernel_rfl) (by simp) ?_
      refine (AllReadyH.cons rfl (fun K hK => ?_) AllReadyH.nil)
      refine step_append_row (by rfl) (.tmp 28) (.tmp 33) rfl ?_ wd.heap.size v1 _ ?_ hP1 _ _ _ _ hB2 hap (by have := HML.out; omega) hsz (fun v3 w4x hO3 hg => ?_)
      rfl
      rfl
      have hbt : HB wd w4x := Below.grown hHeld hg (Below.size hHeld) (fun k hk => (hP1.lt k hk).1)
      clear hg
      go_wp2_with fail
      refine hK.out _ _ hbt (fun _ => ?_)
      clear hK hHeld K
      have hHeld := hbt
      clear hbt
      refine held_take (i := 12) (v := ?_) 6 rfl (by kernel_rfl) (by kernel_rfl) (by kernel_rfl) (fun _ _ _ h => h) rfl (by assumption) (Or.inl ⟨by rfl, ?_⟩) ?_
      rotate_left
      · intro w hSw; go_simp; (try with_reducible rfl)
      simp only [List.set_cons_zero, List.set_cons_succ]
      refine wpAnyH_done (by kernel_rfl) ?_ _
      go_wp2_with fail
      go_ret
      rw [HR.out]
      exact ⟨_, rfl, hO3.weaken (Below.size HWD.out), Below.trans HWD.out (Below.mono hHeld (Below.size HWD.out))⟩
    · have HR : Hid (mgrown ls m b = mgrown (ls.drop (mpart n)) (m - mpart n) false ++ [mroot (ls.take (mpart n))]) := Lib.hid (by rw [mgrown, HLL.out, if_neg h0, if_neg (by omega), if_neg hlt])
      have hML : (mgrown (ls.drop (mpart n)) (m - mpart n) false).length + 1 ≤ 100 := by rw [mgrown_length, List.length_drop, HLL.out]; have := gdep_le 6 (m - mpart n) (n - mpart n) false (by omega); omega
      have HML := Lib.hid hML
      obtain ⟨J, hJ⟩ : ∃ J, J = m - mpart n := ⟨_, rfl⟩
      have i3 : IntKind.i64.wrap ((m : Int) - ((mpart n : Nat) : Int)) = (J : Int) := by rw [IntWalk.i64_in _ (by omega)]; omega
      rw [← hJ] at HR HML
      have HJ : Hid (J + mpart n = m) := Lib.hid (by omega)
      clear hJ hML
      have f1 : ¬ (m : Int) ≤ ((mpart n : Nat) : Int) := by omega
      go_enter Try.func37, Try.ntmps37
      go_wp2_with fail
      refine (HPA.out _).mono ?_
      rintro e wq ⟨rfl, rfl⟩
      go_upto_region 9 with fail
      obtain ⟨wd, hwd⟩ : ∃ wd, wd = w.drew := ⟨_, rfl⟩
      have hb : Below w.heap.size w wd := by rw [hwd]; exact (Below.refl _ _).drew
      clear hb
      refine held_start (by kernel_rfl) (fun hHeld => ?_)
      rw [← hwd] at hHeld ⊢
      have HWD := Lib.hid (show Below w.heap.size w wd by rw [hwd]; exact (Below.refl _ _).drew)
      have hT := HT.out.below HWD.out
      have hD := HD.out.below HWD.out
      clear hwd
      refine held_take (i := 0) (v := ?_) 35 rfl (by kernel_rfl) (by kernel_rfl) (by kernel_rfl) (fun _ _ _ h => h) rfl (by assumption) (Or.inl ⟨by rfl, ?_⟩) ?_
      rotate_left
      · intro w hSw; go_simp; (try with_reducible rfl)
      simp only [List.set_cons_zero, List.set_cons_succ]
      refine held_take (i := 1) (v := ?_) 36 rfl (by kernel_rfl) (by kernel_rfl) (by kernel_rfl) (fun _ _ _ h => h) rfl (by assumption) (Or.inl ⟨by rfl, ?_⟩) ?_
      rotate_left
      · intro w hSw; go_simp; (try with_reducible rfl)
      simp only [List.set_cons_zero, List.set_cons_succ]
      refine held_take (i := 2) (v := ?_) 37 rfl (by kernel_rfl) (by kernel_rfl) (by kernel_rfl) (fun _ _ _ h => h) rfl (by assumption) (Or.inl ⟨by rfl, ?_⟩) ?_
      rotate_left
      · intro w hSw; go_simp; (try with_reducible rfl)
      simp only [List.set_cons_zero, List.set_cons_succ]
      refine held_take (i := 3) (v := ?_) 38 rfl (by kernel_rfl) (by kernel_rfl) (by kernel_rfl) (fun _ _ _ h => h) rfl (by assumption) (Or.inl ⟨by rfl, ?_⟩) ?_
      rotate_left
      · intro w hSw; go_simp; (try with_reducible rfl)
      simp only [List.set_cons_zero, List.set_cons_succ]
      refine held_take (i := 4) (v := ?_) 39 rfl (by kernel_rfl) (by kernel_rfl) (by kernel_rfl) (fun _ _ _ h => h) rfl (by assumption) (Or.inl ⟨by rfl, ?_⟩) ?_
      rotate_left
      · intro w hSw; go_simp; (try with_reducible rfl)
      simp only [List.set_cons_zero, List.set_cons_succ]
      refine held_take (i := 5) (v := ?_) 40 rfl (by kernel_rfl) (by kernel_rfl) (by kernel_rfl) (fun _ _ _ h => h) rfl (by assumption) (Or.inl ⟨by rfl, ?_⟩) ?_
      rotate_left
      · intro w hSw; go_simp; (try with_reducible rfl)
      simp only [List.set_cons_zero, List.set_cons_succ]
      refine held_take (i := 7) (v := ?_) 42 rfl (by kernel_rfl) (by kernel_rfl) (by kernel_rfl) (fun _ _ _ h => h) rfl (by assumption) (Or.inl ⟨by rfl, ?_⟩) ?_
      rotate_left
      · intro w hSw; go_simp; (try with_reducible rfl)
      simp only [List.set_cons_zero, List.set_cons_succ]
      refine held_take (i := 8) (v := ?_) 43 rfl (by kernel_rfl) (by kernel_rfl) (by kernel_rfl) (fun _ _ _ h => h) rfl (by assumption) (Or.inl ⟨by rfl, ?_⟩) ?_
      rotate_left
      · intro w hSw; go_simp; (try with_reducible rfl)
      simp only [List.set_cons_zero, List.set_cons_succ]
      refine held_take (i := 9) (v := ?_) 44 rfl (by kernel_rfl) (by kernel_rfl) (by kernel_rfl) (fun _ _ _ h => h) rfl (by assumption) (Or.inl ⟨by rfl, ?_⟩) ?_
      rotate_left
      · intro w hSw; go_simp; (try with_reducible rfl)
      simp only [List.set_cons_zero, List.set_cons_succ]
      refine wpAnyH_ready (rs := [6]) (by kernel_rfl) (by simp) ?_
      refine (AllReadyH.cons rfl (fun K hK => ?_) AllReadyH.nil)
      go_simp
      refine (IH.out (n - mpart n) (by have := HP.out; omega) _ _ _ J false _ (hD.below hHeld) hx2 (by omega) (by have := HJ.out; omega) (by have := HJ.out; omega)).mono ?_
      rintro e w1x ⟨v1, rfl, hP0, hb⟩
      have hbt := HB.trans hHeld hb
      have hP1 := hP0.weaken (B := wd.heap.size) (Below.size hHeld)
      have hPl := hP0.lt
      clear hP0
      go_wp2_with fail
      refine hK.out _ _ hbt (fun _ => ?_)
      clear hK hHeld K
      have hHeld := hbt
      clear hb hbt
      refine wpAnyH_ready (rs := [10]) (by kernel_rfl) (by simp) ?_
      refine (AllReadyH.cons rfl (fun K hK => ?_) AllReadyH.nil)
      go_simp
      refine (rroot_any (mpart n) _ _ _ _ (hT.below hHeld) hx1 (by omega)).mono ?_
      rintro e w2x ⟨v2, rfl, hO2, hb⟩
      have hbt := HB.trans hHeld hb
      have hP1 := hP1.below hb
      obtain ⟨a2, c2, rfl, hB2⟩ := hO2.bsn (n := 32) (mroot_length _)
      have hap : 0 < 32 → ∀ x, a2 = some x → v1.ownBlock ≠ some x.block := fun _ x hx e => by have := hO2.new_blk x hx; have := (hPl _ e).2; omega
      have hsz := Below.size hbt
      clear hO2 hPl
      go_wp2_with fail
      refine hK.out _ _ hbt (fun _ => ?_)
      clear hK hHeld K
      have hHeld := hbt
      refine wpAnyH_ready (rs := [11]) (by kernel_rfl) (by simp) ?_
      refine (AllReadyH.cons rfl (fun K hK => ?_) AllReadyH.nil)
      go_simp
      have hb : HB w2x (w2x.alloc (.cells #[.slice a2 32 c2] TBS)) := (HB.refl _).alloc _
      have hbt := HB.trans hHeld hb
      refine hK.out _ _ hbt (fun _ => ?_)
      clear hK hHeld K
      have hHeld := hbt
      clear hb hbt
      refine wpAnyH_ready (rs := [12]) (by kernel_rfl) (by simp) ?_
      refine (AllReadyH.cons rfl (fun K hK => ?_) AllReadyH.nil)
      refine step_append_row (by rfl) (.tmp 41) (.tmp 46) rfl ?_ wd.heap.size v1 _ ?_ hP1 _ _ _ _ hB2 hap (by have := HML.out; omega) hsz (fun v3 w4x hO3 hg => ?_)
      rfl
      rfl
      have hbt : HB wd w4x := Below.grown hHeld hg (Below.size hHeld) (fun k hk => (hP1.lt k hk).1)
      clear hg
      go_wp2_with fail
      refine hK.out _ _ hbt (fun _ => ?_)
      clear hK hHeld K
      have hHeld := hbt
      clear hbt
      refine held_take (i := 13) (v := ?_) 6 rfl (by kernel_rfl) (by kernel_rfl) (by kernel_rfl) (fun _ _ _ h => h) rfl (by assumption) (Or.inl ⟨by rfl, ?_⟩) ?_
      rotate_left
      · intro w hSw; go_simp; (try with_reducible rfl)
      simp only [List.set_cons_zero, List.set_cons_succ]
      refine wpAnyH_done (by kernel_rfl) ?_ _
      go_wp2_with fail
      go_ret
      rw [HR.out]
      exact ⟨_, rfl, hO3.weaken (Below.size HWD.out), Below.trans HWD.out (Below.mono hHeld (Below.size HWD.out))⟩
end Go.Proofs.Ytaomkjnkfkahhaa
