/- The contract of the document's Decode of chapter 20. -/
import Derived.Test.YtdglhonogopciaaDoorPtDec
import Derived.Test.YtdglhonogopciaaDoorPtRefEnc
import Derived.Test.YtdglhonogopciaaDoorRef4R
namespace Go.Proofs.YtdglhonogopciaaDoor
open Go.RowKit

theorem pt_strne (xs ys : List UInt8) : (!(strOf xs).toList == (strOf ys).toList) = decide (xs ≠ ys) := by
  rw [strOf_toList, strOf_toList, Bool.eq_iff_iff]
  simp
set_option maxHeartbeats 1000000 in
set_option maxRecDepth 100000 in
theorem rpdec_arg (s p g : Int) (a : Option Addr) (len cap : Nat) (w : World) (h : ¬ isPlan s p g ∨ (len : Int) ≠ 128 * p) :
    Calls Tryd.prog 29 #[.agg #[.int .i64 s, .int .i64 p, .int .i64 g], .slice a len cap] w fun e w' => PtPost 1 Mk.zero w.heap.size e w' ∧ Below w.heap.size w w' := by
  obtain ⟨H, hH⟩ : ∃ H, H = w.heap.size := ⟨_, rfl⟩
  have hE := ((Ext.refl w).alloc (.cells #[.int .i64 s, .int .i64 p, .int .i64 g] 32)).alloc (.cells #[.int .u64 0, .int .u64 0, .int .i64 0, .slice none 0 0, .slice none 0 0] 37)
  have hP := (Below.heap_alloc (w.alloc (.cells #[.int .i64 s, .int .i64 p, .int .i64 g] 32)) (.cells #[.int .u64 0, .int .u64 0, .int .i64 0, .slice none 0 0, .slice none 0 0] 37) w.heap.size (by simp)).trans (heap_alloc_new w (.cells #[.int .i64 s, .int .i64 p, .int .i64 g] 32))
  have hZ := heap_alloc_new (w.alloc (.cells #[.int .i64 s, .int .i64 p, .int .i64 g] 32)) (.cells #[.int .u64 0, .int .u64 0, .int .i64 0, .slice none 0 0, .slice none 0 0] 37)
  have hB := trivial
  rw [World.size_alloc] at hZ
  rw [← hH] at hE hP hZ ⊢
  have HH := Lib.hid hH
  have HW := Lib.hid (And.intro hE (And.intro hP (And.intro hZ hB)))
  clear hE hP hZ hB hH
  have HWY : Hid ((1 : Nat) = 1) := Lib.hid rfl
  by_cases hp : isPlan s p g
  · have hlen : (len : Int) ≠ 128 * p := h.resolve_left (fun h' => h' hp)
    have HR := Lib.hid (fun w => lrright_ok s p g w hp)
    have hbd := hp.bd
    have i1 : IntKind.i64.wrap (128 * p) = 128 * p := IntWalk.i64_in _ (by omega)
    have hne : ((len : Int) != 128 * p) = true := by rw [bne_iff_ne]; exact hlen
    clear h hp hlen hbd
    go_enter Tryd.func29, Tryd.ntmps29
    go_wp2_with fail
    rw [← HH.out]
    obtain ⟨hE, hP, hZ, hB⟩ := HW.out
    clear HW
    generalize (w.alloc (.cells #[.int .i64 s, .int .i64 p, .int .i64 g] 32)).alloc (.cells #[.int .u64 0, .int .u64 0, .int .i64 0, .slice none 0 0, .slice none 0 0] 37) = w0 at *
    refine (HR.out _).mono ?_
    rintro e w1 ⟨rfl, hb⟩
    replace hE := hE.step hb
    replace hP := (hb.block H (lt_of_heap hP)).trans hP
    replace hZ := (hb.block (H + 1) (lt_of_heap hZ)).trans hZ
    clear hb HR
    have p0 := cells_at hP 0
    have p1 := cells_at hP 1
    have p2 := cells_at hP 2
    simp only [List.getElem?_toArray, List.getElem?_cons_zero, List.getElem?_cons_succ] at p0 p1 p2
    have hz := lt_of_heap hZ
    have z0 := cells_at hZ 0
    have z1 := cells_at hZ 1
    have z2 := cells_at hZ 2
    have z3 := cells_at hZ 3
    have z4 := cells_at hZ 4
    simp only [List.getElem?_toArray, List.getElem?_cons_zero, List.getElem?_cons_succ] at z0 z1 z2 z3 z4
    have f0 := frozen_at hZ 0
    have f1 := frozen_at hZ 1
    have f2 := frozen_at hZ 2
    have f3 := frozen_at hZ 3
    have f4 := frozen_at hZ 4
    go_wp2_with fail
    refine bodyPost_ret (v := .tuple #[.agg #[.int .u64 0, .int .u64 0, .int .i64 0, .slice none 0 0, .slice none 0 0], .int .i64 1]) (by simp [results, Tryd.results29, go_sem, z0, z1, z2, z3, z4]) rfl ⟨by exact PtPost.zero 1 _ _, below5 hE.1 (Nat.le_succ _) _ _ _ _ _⟩
  · have HR := Lib.hid (fun w => lrright_no s p g w hp)
    clear h hp
    go_enter Tryd.func29, Tryd.ntmps29
    go_wp2_with fail
    rw [← HH.out]
    obtain ⟨hE, hP, hZ, hB⟩ := HW.out
    clear HW
    generalize (w.alloc (.cells #[.int .i64 s, .int .i64 p, .int .i64 g] 32)).alloc (.cells #[.int .u64 0, .int .u64 0, .int .i64 0, .slice none 0 0, .slice none 0 0] 37) = w0 at *
    refine (HR.out _).mono ?_
    rintro e w1 ⟨rfl, hb⟩
    replace hE := hE.step hb
    replace hP := (hb.block H (lt_of_heap hP)).trans hP
    replace hZ := (hb.block (H + 1) (lt_of_heap hZ)).trans hZ
    clear hb HR
    have hz := lt_of_heap hZ
    have z0 := cells_at hZ 0
    have z1 := cells_at hZ 1
    have z2 := cells_at hZ 2
    have z3 := cells_at hZ 3
    have z4 := cells_at hZ 4
    simp only [List.getElem?_toArray, List.getElem?_cons_zero, List.getElem?_cons_succ] at z0 z1 z2 z3 z4
    have f0 := frozen_at hZ 0
    have f1 := frozen_at hZ 1
    have f2 := frozen_at hZ 2
    have f3 := frozen_at hZ 3
    have f4 := frozen_at hZ 4
    go_wp2_with fail
    refine bodyPost_ret (v := .tuple #[.agg #[.int .u64 0, .int .u64 0, .int .i64 0, .slice none 0 0, .slice none 0 0], .int .i64 1]) (by simp [results, Tryd.results29, go_sem, z0, z1, z2, z3, z4]) rfl ⟨by exact PtPost.zero 1 _ _, below5 hE.1 (Nat.le_succ _) _ _ _ _ _⟩

/-- the document's reader, of our own, from block q on -/
structure DK (w1 : World) (q : Nat) (ys L : List UInt8) (wx : World) : Prop where
  ext : Ext q w1 wx
  rr : RR wx q q ys (L, 0)
theorem DK.next {w1 : World} {q : Nat} {ys L : List UInt8} {wx : World} (h : DK w1 q ys L wx) {L' : List UInt8} {w' : World} (hP : RRPost wx q q ys (L', 0) w') : DK w1 q ys L' w' :=
  ⟨h.ext.to (hP.2.below h.ext.2 (fun _ _ hk => by omega)), hP.1⟩
theorem DK.below {w1 : World} {q : Nat} {ys L : List UInt8} {wx : World} (h : DK w1 q ys L wx) {w' : World} (hb : Below wx.heap.size wx w') : DK w1 q ys L w' := ⟨h.ext.step hb, h.rr.chg hb⟩
theorem klong_ok {w1 : World} {q : Nat} {ys L : List UInt8} {wx : World} (n : Nat) (h : DK w1 q ys (be n 8 ++ L) wx) (hn : n < 18446744073709551616) :
    Calls Tryd.prog 46 #[.pointer (some ⟨q, 0, none⟩)] wx fun e w' => e = .returned (.int .u64 (n : Int)) ∧ DK w1 q ys L w' ∧ Chg (fun k => k = q) wx w' := by
  refine (rref_long q q ys (be n 8 ++ L, 0) wx h.rr).mono ?_
  rintro e w' ⟨rfl, hP⟩
  rw [rdLong_be n L hn] at hP ⊢
  exact ⟨rfl, h.next hP, hP.2⟩
theorem kshort_ok {w1 : World} {q : Nat} {ys L : List UInt8} {wx : World} (n : Nat) (h : DK w1 q ys (be n 2 ++ L) wx) (hn : n < 65536) :
    Calls Tryd.prog 47 #[.pointer (some ⟨q, 0, none⟩)] wx fun e w' => e = .returned (.int .i64 (n : Int)) ∧ DK w1 q ys L w' ∧ Chg (fun k => k = q) wx w' := by
  refine (rref_short q q ys (be n 2 ++ L, 0) wx h.rr).mono ?_
  rintro e w' ⟨rfl, hP⟩
  rw [rdShort_be n L, Nat.mod_eq_of_lt hn] at hP ⊢
  exact ⟨rfl, h.next hP, hP.2⟩
theorem kraw_ok {w1 : World} {q : Nat} {ys L : List UInt8} {wx : World} (xs : List UInt8) (n : Int) (h : DK w1 q ys (xs ++ L) wx) (hn : n = xs.length) (hb : n ≤ 65535) :
    Calls Tryd.prog 48 #[.pointer (some ⟨q, 0, none⟩), .int .i64 n] wx fun e w' => (∃ v, e = .returned v ∧ Own w' wx.heap.size v xs) ∧ DK w1 q ys L w' ∧ Chg (fun k => k = q) wx w' := by
  refine (rref_raw q q ys (xs ++ L) 0 n wx h.rr hb).mono ?_
  rintro e w' ⟨v, rfl, ho, hP⟩
  rw [rdRaw_app xs L n hn] at ho hP
  exact ⟨⟨v, rfl, ho⟩, h.next hP, hP.2⟩
def AtK (w : World) (b : Nat) (o : Obj) : Prop := w.heap[b]? = some o
theorem AtK.below {w w' : World} {b : Nat} {o : Obj} (h : AtK w b o) (hb : Below w.heap.size w w') : AtK w' b o := (hb.block b (lt_of_heap h)).trans h
theorem refsum_b (a : Option Addr) (len cap : Nat) (xs : List UInt8) (w : World) (h : Bs w a len cap xs) :
    Calls Tryd.prog 28 #[.slice a len cap] w fun e w' => e = .returned (.int .u32 (crcMore 0 xs : Nat)) ∧ Below w.heap.size w w' :=
  (refsum_any a len cap xs w h).mono fun e w' ⟨h1, h2⟩ => ⟨h1, by rw [← h2]; exact Below.refl _ _⟩
theorem ptOther {w : World} {g X i : Nat} {o len cap : Nat} {ys : List UInt8} (h : Bs w (some ⟨g, o, none⟩) len cap ys) (hne : g ≠ X) (v : Value) : Bs (w.setCell ⟨X, i, none⟩ v) (some ⟨g, o, none⟩) len cap ys :=
  Chg.bs (S := fun q => q = X) ((Chg.refl (fun q => q = X) w).setCell (p := ⟨X, i, none⟩) (fun _ => rfl) v) h (fun ad had => by cases had; exact hne)
theorem noughts_of (rest : List UInt8) (N : Nat) (h : ∀ j, N ≤ j → j < rest.length → rest[j]? = some 0) : noughts (rest.drop N) = true := by
  unfold noughts
  rw [List.all_eq_true]
  intro x hx
  obtain ⟨i, hi, rfl⟩ := List.getElem_of_mem hx
  rw [List.length_drop] at hi
  have := h (N + i) (by omega) (by omega)
  rw [List.getElem?_eq_getElem (by omega)] at this
  rw [List.getElem_drop]
  simp at this
  simp [this]
theorem noughts_at (rest : List UInt8) (N : Nat) (h : noughts (rest.drop N) = true) (j : Nat) (hj : N ≤ j) (x : UInt8) (hx : rest[j]? = some x) : x = 0 := by
  unfold noughts at h
  rw [List.all_eq_true] at h
  have h2 : (rest.drop N)[j - N]? = some x := by rw [List.getElem?_drop, show N + (j - N) = j by omega]; exact hx
  have := h x (List.mem_of_getElem? h2)
  simpa using this
set_option maxHeartbeats 2000000 in
set_option maxRecDepth 100000 in
theorem rpdec_ok (s p g : Int) (a : Option Addr) (len cap : Nat) (w : World) (G Q S N c : Nat) (HD h rest : List UInt8) (hp : isPlan s p g) (hB : Bs w a len cap (ptImg G Q S HD N c h rest)) (hlen : (len : Int) = 128 * p) (hin : PtIn G Q S HD N c h) :
    Calls Tryd.prog 29 #[.agg #[.int .i64 s, .int .i64 p, .int .i64 g], .slice a len cap] w fun e w' => PtPost (ptWhy p g G Q S HD N c h rest) (ptMk (ptWhy p g G Q S HD N c h rest) G Q S HD N rest) w.heap.size e w' ∧ Below w.heap.size w w' := by
  obtain ⟨H, hH⟩ : ∃ H, H = w.heap.size := ⟨_, rfl⟩
  have hE := ((Ext.refl w).alloc (.cells #[.int .i64 s, .int .i64 p, .int .i64 g] 32)).alloc (.cells #[.int .u64 0, .int .u64 0, .int .i64 0, .slice none 0 0, .slice none 0 0] 37)
  have hP := (Below.heap_alloc (w.alloc (.cells #[.int .i64 s, .int .i64 p, .int .i64 g] 32)) (.cells #[.int .u64 0, .int .u64 0, .int .i64 0, .slice none 0 0, .slice none 0 0] 37) w.heap.size (by simp)).trans (heap_alloc_new w (.cells #[.int .i64 s, .int .i64 p, .int .i64 g] 32))
  have hZ := heap_alloc_new (w.alloc (.cells #[.int .i64 s, .int .i64 p, .int .i64 g] 32)) (.cells #[.int .u64 0, .int .u64 0, .int .i64 0, .slice none 0 0, .slice none 0 0] 37)
  replace hB := (hB.alloc (.cells #[.int .i64 s, .int .i64 p, .int .i64 g] 32)).alloc (.cells #[.int .u64 0, .int .u64 0, .int .i64 0, .slice none 0 0, .slice none 0 0] 37)
  rw [World.size_alloc] at hZ
  rw [← hH] at hE hP hZ ⊢
  have HH := Lib.hid hH
  have HW := Lib.hid (And.intro hE (And.intro hP (And.intro hZ hB)))
  clear hE hP hZ hB hH
  have HPL := Lib.hid hp
  have HR := Lib.hid (fun w => lrright_ok s p g w hp)
  have hbd := hp.bd
  have i1 : IntKind.i64.wrap (128 * p) = 128 * p := IntWalk.i64_in _ (by omega)
  have hne : ((len : Int) != 128 * p) = false := by rw [bne_eq_false_iff_eq]; exact hlen
  have hle : len ≤ 200000 := by omega
  have HLE := Lib.hid hlen
  have HBD := Lib.hid hbd
  have HIN := Lib.hid hin
  obtain ⟨n1, n2, n3, n4, n5, n6, n7⟩ := hin
  clear hp
  go_enter Tryd.func29, Tryd.ntmps29
  go_wp2_with fail
  rw [← HH.out]
  obtain ⟨hE, hP, hZ, hB⟩ := HW.out
  clear HW
  generalize (w.alloc (.cells #[.int .i64 s, .int .i64 p, .int .i64 g] 32)).alloc (.cells #[.int .u64 0, .int .u64 0, .int .i64 0, .slice none 0 0, .slice none 0 0] 37) = w0 at *
  refine (HR.out _).mono ?_
  rintro e w1 ⟨rfl, hb⟩
  replace hE := hE.step hb
  replace hP := (hb.block H (lt_of_heap hP)).trans hP
  replace hZ := (hb.block (H + 1) (lt_of_heap hZ)).trans hZ
  replace hB := hB.below hb
  clear hb HR
  have p0 := cells_at hP 0
  have p1 := cells_at hP 1
  have p2 := cells_at hP 2
  simp only [List.getElem?_toArray, List.getElem?_cons_zero, List.getElem?_cons_succ] at p0 p1 p2
  obtain ⟨b, off, rfl⟩ : ∃ b off, a = some ⟨b, off, none⟩ := by
    rcases hB.2.2.2 with h0 | ⟨b, off, h0, _⟩
    · omega
    · exact ⟨b, off, h0⟩
  have hcap := hB.2.1
  have hrl : len = 94 + rest.length := by rw [← hB.1, ptImg_length _ _ _ _ _ _ _ _ n4 n7]
  have HRL := Lib.hid hrl
  have e62 : (62 : Int) ≤ (cap : Int) := by omega
  have e62n : 62 ≤ cap := by omega
  have e94 : (94 : Int) ≤ (cap : Int) := by omega
  have e94n : 94 ≤ cap := by omega
  have e58 : (58 : Int) ≤ (cap : Int) := by omega
  have e58n : 58 ≤ cap := by omega
  have hc58 : ¬ cap = 58 := by omega
  have hc62 : ¬ cap = 62 := by omega
  have hc94 : ¬ cap = 94 := by omega
  have htk : (ptImg G Q S HD N c h rest).take 58 = ptHead G Q S HD N := by unfold ptImg; exact List.take_left' (ptHead_length G Q S HD N n4)
  have hd58 : (ptImg G Q S HD N c h rest).drop 58 = be c 4 ++ (h ++ rest) := by unfold ptImg; rw [List.drop_left' (ptHead_length G Q S HD N n4), pt_be4, List.append_assoc]
  have hB58 := hB.take (k := 58) (by omega)
  rw [htk] at hB58
  have hB4 := (hB.drop (k := 58) (by omega)).take (k := 4) (by omega)
  rw [hd58, List.take_left' (be_length c 4), if_neg hc58] at hB4
  have hB4 : Bs w1 (some ⟨b, off + 58, none⟩) 4 (cap - 58) (be c 4) := hB4
  have hWY : ptWhy p g G Q S HD N c h rest = if c ≠ crcMore 0 (ptHead G Q S HD N) then 14 else if ¬ (1 ≤ G ∧ G ≤ MT ∧ Q ≤ MT ∧ (S : Int) ≤ g ∧ (N : Int) ≤ 128 * p - 94 ∧ noughts (rest.drop N) = true) then 12 else if sha (rest.take N) ≠ h then 40 else 0 := rfl
  have HW0 := Lib.hid hWY
  have HCR := Lib.hid (crcMore_lt 0 (ptHead G Q S HD N))
  have HSB := Lib.hid (fun a len cap w h => refsum_b a len cap (ptHead G Q S HD N) w h)
  clear hWY htk hd58 hrl
  have hP : AtK w1 H _ := hP
  have hZ : AtK w1 (H + 1) _ := hZ
  generalize crcMore 0 (ptHead G Q S HD N) = cr at *
  go_upto_region 3 with fail
  clear p0 p1 p2
  obtain ⟨wd, hwd⟩ : ∃ wd, wd = w1.drew := ⟨_, rfl⟩
  have hb : Below w1.heap.size w1 wd := by rw [hwd]; exact (Below.refl _ _).drew
  have hB58 := hB58.below hb
  have hB4 := hB4.below hb
  have hB := hB.below hb
  have hP := hP.below hb
  have hZ := hZ.below hb
  have hE := hE.step hb
  clear hb
  refine held_start (by kernel_rfl) (fun hHeld => ?_)
  rw [← hwd] at hHeld ⊢
  clear hwd
  refine held_take (i := 0) (v := ?_) 22 rfl (by kernel_rfl) (by kernel_rfl) (by kernel_rfl) (fun _ _ _ h => h) rfl (by assumption) (Or.inl ⟨by rfl, ?_⟩) ?_
  rotate_left
  · intro w hSw; go_simp; (try with_reducible rfl)
  simp only [List.set_cons_zero, List.set_cons_succ]
  refine held_take (i := 1) (v := ?_) 23 rfl (by kernel_rfl) (by kernel_rfl) (by kernel_rfl) (fun _ _ _ h => h) rfl (by assumption) (Or.inl ⟨by rfl, ?_⟩) ?_
  rotate_left
  · intro w hSw; go_simp; (try with_reducible rfl)
  simp only [List.set_cons_zero, List.set_cons_succ]
  refine held_take (i := 2) (v := ?_) 24 rfl (by kernel_rfl) (by kernel_rfl) (by kernel_rfl) (fun _ _ _ h => h) rfl (by assumption) (Or.inl ⟨by rfl, ?_⟩) ?_
  rotate_left
  · intro w hSw; have hs := run_string (hB4.below hSw); go_simp; (try with_reducible rfl)
  simp only [List.set_cons_zero, List.set_cons_succ]
  refine held_take (i := 3) (v := ?_) 25 rfl (by kernel_rfl) (by kernel_rfl) (by kernel_rfl) (fun _ _ _ h => h) rfl (by assumption) (Or.inl ⟨by rfl, ?_⟩) ?_
  rotate_left
  · intro w hSw; go_simp; (try with_reducible rfl)
  simp only [List.set_cons_zero, List.set_cons_succ]
  refine held_take (i := 4) (v := ?_) 26 rfl (by kernel_rfl) (by kernel_rfl) (by kernel_rfl) (fun _ _ _ h => h) rfl (by assumption) (Or.inl ⟨by rfl, ?_⟩) ?_
  rotate_left
  · intro w hSw; go_simp; (try with_reducible rfl)
  simp only [List.set_cons_zero, List.set_cons_succ]
  refine wpAnyH_ready (rs := [5]) (by kernel_rfl) (by simp) ?_
  refine (AllReadyH.cons rfl (fun K hK => ?_) AllReadyH.nil)
  go_simp
  refine (HSB.out _ _ _ _ (hB58.below hHeld)).mono ?_
  rintro e w1x ⟨rfl, hb⟩
  have hbt := HB.trans hHeld hb
  have hB58 := hB58.below hbt
  have hB4 := hB4.below hbt
  have hB := hB.below hbt
  have hP := hP.below hbt
  have hZ := hZ.below hbt
  have hE := hE.step hbt
  go_wp2_with fail
  refine hK.out _ _ hbt (fun _ => held_next hbt (fun hHeld2 => ?_))
  clear hK hHeld hb hbt K
  have hHeld := hHeld2
  clear hHeld2
  refine wpAnyH_ready (rs := [6]) (by kernel_rfl) (by simp) ?_
  refine (AllReadyH.cons rfl (fun K hK => ?_) AllReadyH.nil)
  go_simp
  refine (ref_sum4 none 0 0 [] cr _ (Bs.nil _) (by unfold big; decide) HCR.out).mono ?_
  rintro e w2x ⟨vs, rfl, hos, hb⟩
  have hbt := HB.trans hHeld hb
  have hB58 := hB58.below hbt
  have hB4 := hB4.below hbt
  have hB := hB.below hbt
  have hP := hP.below hbt
  have hZ := hZ.below hbt
  have hE := hE.step hbt
  obtain ⟨as1, cs1, rfl, hBs⟩ := hos.bsn (n := 4) (by simp [be_length])
  rw [List.nil_append] at hBs
  clear hos
  go_wp2_with fail
  refine hK.out _ _ hbt (fun _ => held_next hbt (fun hHeld2 => ?_))
  clear hK hHeld hb hbt K
  have hHeld := hHeld2
  clear hHeld2
  refine held_take (i := 7) (v := ?_) 29 rfl (by kernel_rfl) (by kernel_rfl) (by kernel_rfl) (fun _ _ _ h => h) rfl (by assumption) (Or.inl ⟨by rfl, ?_⟩) ?_
  rotate_left
  · intro w hSw; have hs := run_string (hBs.below hSw); go_simp; (try with_reducible rfl)
  simp only [List.set_cons_zero, List.set_cons_succ]
  refine held_take (i := 8) (v := ?_) 30 rfl (by kernel_rfl) (by kernel_rfl) (by kernel_rfl) (fun _ _ _ h => h) rfl (by assumption) (Or.inl ⟨by rfl, ?_⟩) ?_
  rotate_left
  · intro w hSw; go_simp; (try with_reducible rfl)
  simp only [List.set_cons_zero, List.set_cons_succ]
  refine wpAnyH_done (by kernel_rfl) ?_ _
  by_cases hc : c = cr
  · subst hc
    have z1 : (!(strOf (be c 4)).toList == (strOf (be c 4)).toList) = false := by simp
    rw [z1]
    clear z1
    go_upto_region 5 with fail
    have hc58' := hB4
    clear hc58' hB4 hB58 hBs hHeld
    have hNW := RR.new hB (by unfold big; omega)
    have hXX : ptImg G Q S HD N c h rest = be G 8 ++ (be Q 8 ++ (be S 2 ++ (HD ++ (be N 8 ++ (be c 4 ++ (h ++ rest)))))) := by unfold ptImg ptHead; rw [pt_be4]; simp only [List.append_assoc]
    have hK : DK w2x w2x.heap.size (ptImg G Q S HD N c h rest) (be G 8 ++ (be Q 8 ++ (be S 2 ++ (HD ++ (be N 8 ++ (be c 4 ++ (h ++ rest))))))) (w2x.alloc (.cells #[.slice (some ⟨b, off, none⟩) len cap, .int .i64 0, .int .i64 0] 84)) := ⟨(Ext.refl w2x).alloc _, by rw [← hXX]; exact hNW⟩
    obtain ⟨q, hq⟩ : ∃ q, q = w2x.heap.size := ⟨_, rfl⟩
    rw [← hq] at hK
    have HQ := Lib.hid hq
    have HPZ := Lib.hid (And.intro hP (And.intro hZ (And.intro hB hE)))
    have hq1 : H + 1 < q := by rw [hq]; exact lt_of_heap hZ
    clear hNW hXX hP hZ hB hE
    go_wp2_with fail
    rw [← HQ.out]
    clear hq
    generalize w2x.alloc (.cells #[.slice (some ⟨b, off, none⟩) len cap, .int .i64 0, .int .i64 0] 84) = w3 at *
    refine (klong_ok G hK n1).mono ?_
    rintro e w4 ⟨rfl, hK, _⟩
    go_wp2_with fail
    refine (klong_ok Q hK n2).mono ?_
    rintro e w5 ⟨rfl, hK, _⟩
    go_wp2_with fail
    refine (kshort_ok S hK n3).mono ?_
    rintro e w6 ⟨rfl, hK, _⟩
    have h6q := hK.rr.lt
    go_wp2_with fail
    refine (kraw_ok HD 32 hK (by rw [n4]; rfl) (by omega)).mono ?_
    rintro e w7 ⟨⟨vh, rfl, hOH⟩, hK, _⟩
    obtain ⟨ah, ch, rfl, _⟩ := hOH.bsn (n := 32) n4
    have h7q := hK.rr.lt
    have hOM := hOH.ltp
    have hbm := (Below.refl w7.heap.size w7).alloc (Nat.le_refl _) (.cells #[.int .u64 (G : Int), .int .u64 (Q : Int), .int .i64 (S : Int), .slice ah 32 ch, .slice none 0 0] 37)
    have hM : AtK (w7.alloc (.cells #[.int .u64 (G : Int), .int .u64 (Q : Int), .int .i64 (S : Int), .slice ah 32 ch, .slice none 0 0] 37)) w7.heap.size (.cells #[.int .u64 (G : Int), .int .u64 (Q : Int), .int .i64 (S : Int), .slice ah 32 ch, .slice none 0 0] 37 (0, 0)) := heap_alloc_new w7 _
    replace hK := hK.below hbm
    replace hOH := hOH.below hbm
    go_wp2_with fail
    generalize w7.alloc (.cells #[.int .u64 (G : Int), .int .u64 (Q : Int), .int .i64 (S : Int), .slice ah 32 ch, .slice none 0 0] 37) = w8 at *
    obtain ⟨M, hM0⟩ : ∃ M, M = w7.heap.size := ⟨_, rfl⟩
    obtain ⟨B1, hB1⟩ : ∃ B1, B1 = w6.heap.size := ⟨_, rfl⟩
    rw [← hM0] at hM h7q hOM ⊢
    rw [← hB1] at hOH h6q
    have HOM := Lib.hid (And.intro hOM (And.intro h6q h7q))
    clear hbm hM0 hB1 hOM h6q h7q
    refine (klong_ok N hK n5).mono ?_
    rintro e w9 ⟨rfl, hK, hch⟩
    replace hM : AtK w9 M _ := (hch.block M (lt_of_heap hM) (by have := HOM.out.2.2; omega)).trans hM
    replace hOH := hch.own hOH (fun k hk e => by have h1 := hOH.blk k hk; have h2 := HOM.out.2.1; omega)
    clear hch
    obtain ⟨hP, hZ, hB, hE0⟩ := HPZ.out
    have hbq : b < q := by
      rcases hB.2.2.2 with h0 | ⟨b', o', h0, h1, _⟩
      · have := HRL.out; omega
      · cases h0; rw [HQ.out]; exact h1
    have HBQ := Lib.hid hbq
    clear hbq
    replace hP : AtK w9 H _ := (hK.ext.1.block H (by omega)).trans hP
    replace hZ : AtK w9 (H + 1) _ := (hK.ext.1.block (H + 1) hq1).trans hZ
    replace hB := hK.ext.bs HQ.out.symm hB
    have hE := hE0.to (hK.ext.1.mono (by rw [HQ.out]; exact hE0.2))
    have HMT : MT = 1099511627776 := rfl
    have HW1 : Hid (ptWhy p g G Q S HD N c h rest = if ¬ (1 ≤ G ∧ G ≤ MT ∧ Q ≤ MT ∧ (S : Int) ≤ g ∧ (N : Int) ≤ 128 * p - 94 ∧ noughts (rest.drop N) = true) then 12 else if sha (rest.take N) ≠ h then 40 else 0) := Lib.hid (by rw [HW0.out, if_neg (by simp)])
    clear hE0 HPZ HW0
    have x0 := cells_at hP 0
    have x1 := cells_at hP 1
    have x2 := cells_at hP 2
    simp only [List.getElem?_toArray, List.getElem?_cons_zero, List.getElem?_cons_succ] at x0 x1 x2
    have y0 := cells_at hM 0
    have y1 := cells_at hM 1
    have y2 := cells_at hM 2
    have y3 := cells_at hM 3
    have y4 := cells_at hM 4
    simp only [List.getElem?_toArray, List.getElem?_cons_zero, List.getElem?_cons_succ] at y0 y1 y2 y3 y4
    by_cases a1 : 1 ≤ G
    · by_cases a2 : G ≤ 1099511627776
      · by_cases a3 : Q ≤ 1099511627776
        · by_cases a4 : (S : Int) ≤ g
          · have b1 : ¬ (G : Int) < 1 := by omega
            have b2 : ¬ (1099511627776 : Int) < (G : Int) := by omega
            have b3 : ¬ (1099511627776 : Int) < (Q : Int) := by omega
            have b4 : ¬ g < (S : Int) := by omega
            clear a1 a2 a3 a4 y4
            go_wp2_with fail
            refine (rroom_ok s p g _ HPL.out).mono ?_
            rintro e w10 ⟨rfl, hb⟩
            replace hM := (hb.block M (lt_of_heap hM)).trans hM
            replace hZ := (hb.block (H + 1) (lt_of_heap hZ)).trans hZ
            replace hE := hE.step hb
            replace hB := hB.below hb
            replace hOH := hOH.below hb
            clear hK hP x0 x1 x2 y0 y1 y2 y3 hb
            have i2 : IntKind.u64.wrap (128 * p - 94) = 128 * p - 94 := IntWalk.u64_in _ (by have := HBD.out; omega)
            by_cases hN : (N : Int) ≤ 128 * p - 94
            · have hN2 : ¬ 128 * p - 94 < (N : Int) := by omega
              have hNr : N ≤ rest.length := by have := HRL.out; have := HLE.out; omega
              have hTl : (rest.take N).length = N := by rw [List.length_take]; omega
              have hd94 : (ptImg G Q S HD N c h rest).drop 94 = rest := by unfold ptImg; simp only [← List.append_assoc]; exact List.drop_left' (by simp [ptHead_length G Q S HD N n4, n7, be_length])
              have hd58 : (ptImg G Q S HD N c h rest).drop 58 = be c 4 ++ (h ++ rest) := by unfold ptImg; rw [List.drop_left' (ptHead_length G Q S HD N n4), pt_be4, List.append_assoc]
              have hd62 : ((ptImg G Q S HD N c h rest).drop 62).take 32 = h := by rw [show 62 = 58 + 4 from rfl, ← List.drop_drop, hd58, List.drop_left' (be_length c 4)]; exact List.take_left' n7
              clear hd58
              have hBR := hB.drop (k := 94) (by omega)
              rw [hd94, if_neg hc94] at hBR
              have hBT0 := hBR.take (k := N) (by omega)
              have hBT : Bs w10 (some ⟨b, off + 94, none⟩) N (cap - 94) (rest.take N) := hBT0
              have hBX0 := (hB.drop (k := 62) (by omega)).take (k := 32) (by omega)
              rw [hd62, if_neg hc62] at hBX0
              have hBX : Bs w10 (some ⟨b, off + 62, none⟩) 32 (cap - 62) h := hBX0
              have i3 : IntKind.i64.wrap (N : Int) = (N : Int) := IntWalk.i64_in _ (by have := HBD.out; omega)
              have i4 : IntKind.i64.wrap (94 + (N : Int)) = 94 + (N : Int) := IntWalk.i64_in _ (by have := HBD.out; omega)
              have k1 : (94 : Int) ≤ 94 + (N : Int) := by omega
              have k2 : 94 + (N : Int) ≤ (cap : Int) := by omega
              have hO := Own.empty w10
              replace hBR : Bs w10 (some ⟨b, off + 94, none⟩) (len - 94) (cap - 94) rest := hBR
              clear hBT0 hBX0 hB
              go_wp2_with (at_builtin; refine wpList_append_bytes rfl (.tmp 74) (.tmp 79) rfl (w10.heap.size) _ [] rfl hO (some ⟨b, off + 94, none⟩) N (cap - 94) (rest.take N) (congrArg (fun k => Value.slice (some ⟨b, off + 94, none⟩) k (cap - 94)) (show 94 + N - 94 = N by omega)) (hBT.alloc _) ?x3 (by simp) ?xk)
              case x3 => simp; omega
              intro v11 w11 ho11 hg11 _
              have hE11 := ((Ext.refl w10).alloc (.cells #[] TB)).grown hg11 hO.blk
              have hb11 := hE11.1
              have hM10 := lt_of_heap hM
              replace hM := (hb11.block M hM10).trans hM
              replace hZ := (hb11.block (H + 1) (lt_of_heap hZ)).trans hZ
              replace hE := hE.step hb11
              replace hBR := hBR.below hb11
              replace hBX := hBX.below hb11
              replace hOH := hOH.below hb11
              obtain ⟨al, cl, rfl, hBT1⟩ := ho11.bsn (n := N) hTl
              have hbM : b ≠ M := by have h1 := HBQ.out; have h2 := HOM.out.2.2; omega
              have hHM : H + 1 < M := by have h2 := HOM.out.2.2; omega
              have y4 := cells_at hM 4
              have g4 := frozen_at hM 4
              simp only [List.getElem?_toArray, List.getElem?_cons_zero, List.getElem?_cons_succ] at y4
              have hOT := ho11.setOther (p := ⟨M, 4, none⟩) (fun k hk e => by have h1 := ho11.blk k hk; have e' : k = M := e; omega) (.slice al N cl)
              replace hOH := hOH.setOther (p := ⟨M, 4, none⟩) (fun k hk e => by have h1 := HOM.out.1 k hk; have e' : k = M := e; omega) (.slice al N cl)
              have hMs := cells_set (k := 4) (y := .slice al N cl) hM
              replace hE := hE.setCell (p := ⟨M, 4, none⟩) (by show H ≤ M; omega) (.slice al N cl)
              replace hZ := cells_far (Z := M) (k := 4) (y := .slice al N cl) hZ (by omega)
              replace hBR := ptOther (i := 4) hBR hbM (.slice al N cl)
              replace hBX := ptOther (i := 4) hBX hbM (.slice al N cl)
              have H10 := Lib.hid (show H + 1 < w10.heap.size by omega)
              have HB1 := Lib.hid (show H + 1 < B1 by have h2 := HOM.out.2.1; omega)
              clear hO hg11 hE11 hb11 hBT hBT1 ho11 hM hbM hHM k1 k2 hd94 hd62 hM10 hN2
              go_wp2_with fail
              generalize w11.setCell ⟨M, 4, none⟩ (.slice al N cl) = w12 at *
              clear y4 g4
              simp only [List.setIfInBounds_toArray, List.set_cons_succ, List.set_cons_zero] at hMs
              have HST := Lib.hid (And.intro hE (And.intro hZ (And.intro hMs (And.intro hOT (And.intro hOH (And.intro hBX hBR))))))
              clear hE hZ hMs hOT hOH hBX
              go_loopw [9] (fun i wr => ∃ k : Nat, 94 + N ≤ k ∧ k ≤ len ∧ i = .int .i64 k ∧ Ext w12.heap.size w12 wr ∧ ∀ j, N ≤ j → 94 + j < k → rest[j]? = some 0) (fun i _ => len - (intOf i).toNat)
              case atStart => exact ⟨94 + N, by omega, by omega, by simp, Ext.refl _, fun j h1 h2 => by omega⟩
              case round =>
                obtain ⟨k, hk1, hk2, rfl, hX, hz0⟩ := hrel
                by_cases hlt : k < len
                · obtain ⟨hb', hc'⟩ : b < w12.heap.size ∧ ∀ i (h : i < rest.length), w12.cell? ⟨b, off + 94 + i, none⟩ = some (.int .u8 (rest[i].toNat : Int)) := by
                    rcases hBR.2.2.2 with h0 | ⟨b', o', e1, hb', hc'⟩
                    · omega
                    · cases e1
                      exact ⟨hb', hc'⟩
                  have hjl : k - 94 < rest.length := by have := HRL.out; omega
                  have c1 := (hX.1.cell (p := ⟨b, off + 94 + (k - 94), none⟩) hb').trans (hc' (k - 94) hjl)
                  rw [show off + 94 + (k - 94) = off + k by omega] at c1
                  have hzx : rest[k - 94]? = some rest[k - 94] := List.getElem?_eq_getElem hjl
                  generalize rest[k - 94] = x at *
                  have hk0 : (0 : Int) ≤ (k : Int) := by omega
                  have hkl : (k : Int) < (len : Int) := by omega
                  have hi : IntKind.i64.wrap ((k : Int) + 1) = ((k + 1 : Nat) : Int) := by rw [IntWalk.i64_in _ (by have := HBD.out; omega)]; rfl
                  clear hc' hb'
                  by_cases hx0 : x = 0
                  · have hne : ((x.toNat : Int) != 0) = false := by rw [hx0]; rfl
                    go_wp2_with fail
                    go_roundw
                    case rel => exact ⟨k + 1, by omega, by omega, by first | rfl | go_num, hX, fun j h1 h2 => by
                      by_cases hj : j = k - 94
                      · rw [hj, hzx, hx0]
                      · exact hz0 j h1 (by omega)⟩
                    case measure => simp [intOf]; omega
                  · have hne : ((x.toNat : Int) != 0) = true := by
                      rw [bne_iff_ne]
                      intro h0
                      have h3 : x.toNat = 0 := by omega
                      exact hx0 (UInt8.toNat_inj.mp (by rw [h3]; rfl))
                    have HWY : Hid (ptWhy p g G Q S HD N c h rest = 12) := Lib.hid (by rw [HW1.out, if_pos]; intro hh; exact hx0 (noughts_at rest N hh.2.2.2.2.2 (k - 94) (by omega) x hzx))
                    obtain ⟨hE, hZ, _, _, _, _, _⟩ := HST.out
                    replace hZ := (hX.1.block (H + 1) (lt_of_heap hZ)).trans hZ
                    replace hE := hE.step hX.1
                    have hz := lt_of_heap hZ
                    have z0 := cells_at hZ 0
                    have z1 := cells_at hZ 1
                    have z2 := cells_at hZ 2
                    have z3 := cells_at hZ 3
                    have z4 := cells_at hZ 4
                    simp only [List.getElem?_toArray, List.getElem?_cons_zero, List.getElem?_cons_succ] at z0 z1 z2 z3 z4
                    have f0 := frozen_at hZ 0
                    have f1 := frozen_at hZ 1
                    have f2 := frozen_at hZ 2
                    have f3 := frozen_at hZ 3
                    have f4 := frozen_at hZ 4
                    go_wp2_with fail
                    refine bodyPost_ret (v := .tuple #[.agg #[.int .u64 0, .int .u64 0, .int .i64 0, .slice none 0 0, .slice none 0 0], .int .i64 12]) (by simp [results, Tryd.results29, go_sem, z0, z1, z2, z3, z4]) rfl ⟨by rw [HWY.out]; exact PtPost.zero 12 _ _, below5 hE.1 (Nat.le_succ _) _ _ _ _ _⟩
                · obtain rfl : k = len := by omega
                  have hnz : noughts (rest.drop N) = true := noughts_of rest N (fun j h1 h2 => hz0 j h1 (by have := HRL.out; omega))
                  have HW2 : Hid (ptWhy p g G Q S HD N c h rest = if sha (rest.take N) ≠ h then 40 else 0) := Lib.hid (by rw [HW1.out, if_neg]; intro hh; exact hh ⟨by omega, by rw [HMT]; omega, by rw [HMT]; omega, by omega, hN, hnz⟩)
                  obtain ⟨hE, hZ, hMs, hOT, hOH, hBX, _⟩ := HST.out
                  replace hE := hE.step hX.1
                  replace hZ := (hX.1.block (H + 1) (lt_of_heap hZ)).trans hZ
                  replace hMs := (hX.1.block M (lt_of_heap hMs)).trans hMs
                  replace hOT := hOT.below hX.1
                  replace hOH := hOH.below hX.1
                  replace hBX := hBX.below hX.1
                  have hZ : AtK wr (H + 1) _ := hZ
                  have hM : AtK wr M _ := hMs
                  obtain ⟨al2, cl2, hv2, hBT⟩ := hOT.bsn (n := N) hTl
                  injection hv2 with hv2 hv3 hv4
                  subst hv2 hv4
                  have hNb : N ≤ 1000000 := by have := HBD.out; omega
                  clear hMs hv3 hz0 hnz hX HST hBR hk1 hk2 hlt hlen hne hle
                  go_upto_region 16 with fail
                  obtain ⟨wd, hwd⟩ : ∃ wd, wd = wr.drew := ⟨_, rfl⟩
                  have hb : Below wr.heap.size wr wd := by rw [hwd]; exact (Below.refl _ _).drew
                  have hBX := hBX.below hb
                  have hBT := hBT.below hb
                  have hM := hM.below hb
                  have hZ := hZ.below hb
                  have hOT := hOT.below hb
                  have hOH := hOH.below hb
                  have hE := hE.step hb
                  clear hb
                  refine held_start (by kernel_rfl) (fun hHeld => ?_)
                  rw [← hwd] at hHeld ⊢
                  clear hwd
                  refine held_take (i := 0) (v := ?_) 97 rfl (by kernel_rfl) (by kernel_rfl) (by kernel_rfl) (fun _ _ _ h => h) rfl (by assumption) (Or.inl ⟨by rfl, ?_⟩) ?_
                  rotate_left
                  · intro w hSw; go_simp; (try with_reducible rfl)
                  simp only [List.set_cons_zero, List.set_cons_succ]
                  refine held_take (i := 1) (v := ?_) 98 rfl (by kernel_rfl) (by kernel_rfl) (by kernel_rfl) (fun _ _ _ h => h) rfl (by assumption) (Or.inl ⟨by rfl, ?_⟩) ?_
                  rotate_left
                  · intro w hSw; go_simp; (try with_reducible rfl)
                  simp only [List.set_cons_zero, List.set_cons_succ]
                  refine held_take (i := 2) (v := ?_) 99 rfl (by kernel_rfl) (by kernel_rfl) (by kernel_rfl) (fun _ _ _ h => h) rfl (by assumption) (Or.inl ⟨by rfl, ?_⟩) ?_
                  rotate_left
                  · intro w hSw; have hs := run_string (hBX.below hSw); go_simp; (try with_reducible rfl)
                  simp only [List.set_cons_zero, List.set_cons_succ]
                  refine held_take (i := 3) (v := ?_) 100 rfl (by kernel_rfl) (by kernel_rfl) (by kernel_rfl) (fun _ _ _ h => h) rfl (by assumption) (Or.inl ⟨by rfl, ?_⟩) ?_
                  rotate_left
                  · intro w hSw; go_simp; (try with_reducible rfl)
                  simp only [List.set_cons_zero, List.set_cons_succ]
                  refine held_take (i := 4) (v := ?_) 101 rfl (by kernel_rfl) (by kernel_rfl) (by kernel_rfl) (fun _ _ _ h => h) rfl (by assumption) (Or.inl ⟨by rfl, ?_⟩) ?_
                  rotate_left
                  · intro w hSw; have y4 := cells_at (hM.below hSw) 4; simp only [List.getElem?_toArray, List.getElem?_cons_zero, List.getElem?_cons_succ] at y4; go_simp; (try with_reducible rfl)
                  simp only [List.set_cons_zero, List.set_cons_succ]
                  refine wpAnyH_ready (rs := [5]) (by kernel_rfl) (by simp) ?_
                  refine (AllReadyH.cons rfl (fun K hK => ?_) AllReadyH.nil)
                  go_simp
                  refine (rsum_any _ _ _ _ _ (hBT.below hHeld) hNb).mono ?_
                  rintro e w1x ⟨vs, rfl, hos, hb⟩
                  have hbt := HB.trans hHeld hb
                  have hBX := hBX.below hbt
                  have hBT := hBT.below hbt
                  have hM := hM.below hbt
                  have hZ := hZ.below hbt
                  have hOT := hOT.below hbt
                  have hOH := hOH.below hbt
                  have hE := hE.step hbt
                  obtain ⟨asx, csx, rfl, hBS⟩ := hos.bsn (n := 32) (sha_length _)
                  clear hos
                  go_wp2_with fail
                  refine hK.out _ _ hbt (fun _ => held_next hbt (fun hHeld2 => ?_))
                  clear hK hHeld hb hbt K
                  have hHeld := hHeld2
                  clear hHeld2
                  refine held_take (i := 6) (v := ?_) 103 rfl (by kernel_rfl) (by kernel_rfl) (by kernel_rfl) (fun _ _ _ h => h) rfl (by assumption) (Or.inl ⟨by rfl, ?_⟩) ?_
                  rotate_left
                  · intro w hSw; have hs := run_string (hBS.below hSw); go_simp; (try with_reducible rfl)
                  simp only [List.set_cons_zero, List.set_cons_succ]
                  refine held_take (i := 7) (v := ?_) 104 rfl (by kernel_rfl) (by kernel_rfl) (by kernel_rfl) (fun _ _ _ h => h) rfl (by assumption) (Or.inl ⟨by rfl, ?_⟩) ?_
                  rotate_left
                  · intro w hSw; go_simp; (try with_reducible rfl)
                  simp only [List.set_cons_zero, List.set_cons_succ]
                  refine wpAnyH_done (by kernel_rfl) ?_ _
                  have HMK : Hid (ptMk 0 G Q S HD N rest = ⟨G, Q, (S : Int), HD, rest.take N⟩) := Lib.hid rfl
                  generalize rest.take N = T at *
                  clear hBX hBT hBS hHeld
                  by_cases he : sha T = h
                  · subst he
                    have z1 : (!(strOf (sha T)).toList == (strOf (sha T)).toList) = false := by simp
                    rw [z1]
                    clear z1
                    have HWY : Hid (ptWhy p g G Q S HD N c (sha T) rest = 0) := Lib.hid (by rw [HW2.out, if_neg (by simp)])
                    have y0 := cells_at hM 0
                    have y1 := cells_at hM 1
                    have y2 := cells_at hM 2
                    have y3 := cells_at hM 3
                    have y4 := cells_at hM 4
                    simp only [List.getElem?_toArray, List.getElem?_cons_zero, List.getElem?_cons_succ] at y0 y1 y2 y3 y4
                    have hz := lt_of_heap hZ
                    have z0 := cells_at hZ 0
                    have z1 := cells_at hZ 1
                    have z2 := cells_at hZ 2
                    have z3 := cells_at hZ 3
                    have z4 := cells_at hZ 4
                    simp only [List.getElem?_toArray, List.getElem?_cons_zero, List.getElem?_cons_succ] at z0 z1 z2 z3 z4
                    have f0 := frozen_at hZ 0
                    have f1 := frozen_at hZ 1
                    have f2 := frozen_at hZ 2
                    have f3 := frozen_at hZ 3
                    have f4 := frozen_at hZ 4
                    go_wp2_with fail
                    refine bodyPost_ret (v := .tuple #[.agg #[.int .u64 (G : Int), .int .u64 (Q : Int), .int .i64 (S : Int), .slice ah 32 ch, .slice al N cl], .int .i64 0]) (by simp [results, Tryd.results29, go_sem, z0, z1, z2, z3, z4]) rfl ⟨?_, below5 hE.1 (Nat.le_succ _) _ _ _ _ _⟩
                    rw [HWY.out, HMK.out]
                    exact ⟨ah, 32, ch, al, N, cl, rfl, (hOH.store5 (fun k hk e => by have h1 := hOH.blk k hk; have h2 := HB1.out; omega) _ _ _ _ _).weaken (by have h2 := HB1.out; omega), (hOT.store5 (fun k hk e => by have h1 := hOT.blk k hk; have h2 := H10.out; omega) _ _ _ _ _).weaken (by have h2 := H10.out; omega)⟩
                  · have z1 : (!(strOf h).toList == (strOf (sha T)).toList) = true := by
                      rw [pt_strne]
                      exact decide_eq_true (fun e => he e.symm)
                    rw [z1]
                    clear z1
                    have HWY : Hid (ptWhy p g G Q S HD N c h rest = 40) := Lib.hid (by rw [HW2.out, if_pos he])
                    clear he
                    have hz := lt_of_heap hZ
                    have z0 := cells_at hZ 0
                    have z1 := cells_at hZ 1
                    have z2 := cells_at hZ 2
                    have z3 := cells_at hZ 3
                    have z4 := cells_at hZ 4
                    simp only [List.getElem?_toArray, List.getElem?_cons_zero, List.getElem?_cons_succ] at z0 z1 z2 z3 z4
                    have f0 := frozen_at hZ 0
                    have f1 := frozen_at hZ 1
                    have f2 := frozen_at hZ 2
                    have f3 := frozen_at hZ 3
                    have f4 := frozen_at hZ 4
                    go_wp2_with fail
                    refine bodyPost_ret (v := .tuple #[.agg #[.int .u64 0, .int .u64 0, .int .i64 0, .slice none 0 0, .slice none 0 0], .int .i64 40]) (by simp [results, Tryd.results29, go_sem, z0, z1, z2, z3, z4]) rfl ⟨by rw [HWY.out]; exact PtPost.zero 40 _ _, below5 hE.1 (Nat.le_succ _) _ _ _ _ _⟩
            · have hN2 : 128 * p - 94 < (N : Int) := by omega
              have HWY : Hid (ptWhy p g G Q S HD N c h rest = 12) := Lib.hid (by rw [HW1.out, if_pos]; intro hh; exact hN hh.2.2.2.2.1)
              have hz := lt_of_heap hZ
              have z0 := cells_at hZ 0
              have z1 := cells_at hZ 1
              have z2 := cells_at hZ 2
              have z3 := cells_at hZ 3
              have z4 := cells_at hZ 4
              simp only [List.getElem?_toArray, List.getElem?_cons_zero, List.getElem?_cons_succ] at z0 z1 z2 z3 z4
              have f0 := frozen_at hZ 0
              have f1 := frozen_at hZ 1
              have f2 := frozen_at hZ 2
              have f3 := frozen_at hZ 3
              have f4 := frozen_at hZ 4
              go_wp2_with fail
              refine bodyPost_ret (v := .tuple #[.agg #[.int .u64 0, .int .u64 0, .int .i64 0, .slice none 0 0, .slice none 0 0], .int .i64 12]) (by simp [results, Tryd.results29, go_sem, z0, z1, z2, z3, z4]) rfl ⟨by rw [HWY.out]; exact PtPost.zero 12 _ _, below5 hE.1 (Nat.le_succ _) _ _ _ _ _⟩
          · have gg : g < (S : Int) := by omega
            have HWY : Hid (ptWhy p g G Q S HD N c h rest = 12) := Lib.hid (by rw [HW1.out, if_pos]; intro hh; exact a4 hh.2.2.2.1)
            have hz := lt_of_heap hZ
            have z0 := cells_at hZ 0
            have z1 := cells_at hZ 1
            have z2 := cells_at hZ 2
            have z3 := cells_at hZ 3
            have z4 := cells_at hZ 4
            simp only [List.getElem?_toArray, List.getElem?_cons_zero, List.getElem?_cons_succ] at z0 z1 z2 z3 z4
            have f0 := frozen_at hZ 0
            have f1 := frozen_at hZ 1
            have f2 := frozen_at hZ 2
            have f3 := frozen_at hZ 3
            have f4 := frozen_at hZ 4
            go_wp2_with fail
            refine bodyPost_ret (v := .tuple #[.agg #[.int .u64 0, .int .u64 0, .int .i64 0, .slice none 0 0, .slice none 0 0], .int .i64 12]) (by simp [results, Tryd.results29, go_sem, z0, z1, z2, z3, z4]) rfl ⟨by rw [HWY.out]; exact PtPost.zero 12 _ _, below5 hE.1 (Nat.le_succ _) _ _ _ _ _⟩
        · have gg : (1099511627776 : Int) < (Q : Int) := by omega
          have HWY : Hid (ptWhy p g G Q S HD N c h rest = 12) := Lib.hid (by rw [HW1.out, if_pos]; intro hh; exact a3 (by rw [← HMT]; exact hh.2.2.1))
          have hz := lt_of_heap hZ
          have z0 := cells_at hZ 0
          have z1 := cells_at hZ 1
          have z2 := cells_at hZ 2
          have z3 := cells_at hZ 3
          have z4 := cells_at hZ 4
          simp only [List.getElem?_toArray, List.getElem?_cons_zero, List.getElem?_cons_succ] at z0 z1 z2 z3 z4
          have f0 := frozen_at hZ 0
          have f1 := frozen_at hZ 1
          have f2 := frozen_at hZ 2
          have f3 := frozen_at hZ 3
          have f4 := frozen_at hZ 4
          go_wp2_with fail
          refine bodyPost_ret (v := .tuple #[.agg #[.int .u64 0, .int .u64 0, .int .i64 0, .slice none 0 0, .slice none 0 0], .int .i64 12]) (by simp [results, Tryd.results29, go_sem, z0, z1, z2, z3, z4]) rfl ⟨by rw [HWY.out]; exact PtPost.zero 12 _ _, below5 hE.1 (Nat.le_succ _) _ _ _ _ _⟩
      · have gg : (1099511627776 : Int) < (G : Int) := by omega
        have HWY : Hid (ptWhy p g G Q S HD N c h rest = 12) := Lib.hid (by rw [HW1.out, if_pos]; intro hh; exact a2 (by rw [← HMT]; exact hh.2.1))
        have hz := lt_of_heap hZ
        have z0 := cells_at hZ 0
        have z1 := cells_at hZ 1
        have z2 := cells_at hZ 2
        have z3 := cells_at hZ 3
        have z4 := cells_at hZ 4
        simp only [List.getElem?_toArray, List.getElem?_cons_zero, List.getElem?_cons_succ] at z0 z1 z2 z3 z4
        have f0 := frozen_at hZ 0
        have f1 := frozen_at hZ 1
        have f2 := frozen_at hZ 2
        have f3 := frozen_at hZ 3
        have f4 := frozen_at hZ 4
        go_wp2_with fail
        refine bodyPost_ret (v := .tuple #[.agg #[.int .u64 0, .int .u64 0, .int .i64 0, .slice none 0 0, .slice none 0 0], .int .i64 12]) (by simp [results, Tryd.results29, go_sem, z0, z1, z2, z3, z4]) rfl ⟨by rw [HWY.out]; exact PtPost.zero 12 _ _, below5 hE.1 (Nat.le_succ _) _ _ _ _ _⟩
    · have gg : (G : Int) < 1 := by omega
      have HWY : Hid (ptWhy p g G Q S HD N c h rest = 12) := Lib.hid (by rw [HW1.out, if_pos]; intro hh; exact a1 hh.1)
      have hz := lt_of_heap hZ
      have z0 := cells_at hZ 0
      have z1 := cells_at hZ 1
      have z2 := cells_at hZ 2
      have z3 := cells_at hZ 3
      have z4 := cells_at hZ 4
      simp only [List.getElem?_toArray, List.getElem?_cons_zero, List.getElem?_cons_succ] at z0 z1 z2 z3 z4
      have f0 := frozen_at hZ 0
      have f1 := frozen_at hZ 1
      have f2 := frozen_at hZ 2
      have f3 := frozen_at hZ 3
      have f4 := frozen_at hZ 4
      go_wp2_with fail
      refine bodyPost_ret (v := .tuple #[.agg #[.int .u64 0, .int .u64 0, .int .i64 0, .slice none 0 0, .slice none 0 0], .int .i64 12]) (by simp [results, Tryd.results29, go_sem, z0, z1, z2, z3, z4]) rfl ⟨by rw [HWY.out]; exact PtPost.zero 12 _ _, below5 hE.1 (Nat.le_succ _) _ _ _ _ _⟩
  · have z1 : (!(strOf (be c 4)).toList == (strOf (be cr 4)).toList) = true := by
      rw [pt_strne]
      exact decide_eq_true (fun h => hc (be_inj c cr 4 (by omega) (by have := HCR.out; omega) h))
    rw [z1]
    clear z1
    have HWY : Hid (ptWhy p g G Q S HD N c h rest = 14) := Lib.hid (by rw [HW0.out, if_pos hc])
    clear hc HW0 hB58 hB4 hB
    have hz := lt_of_heap hZ
    have z0 := cells_at hZ 0
    have z1 := cells_at hZ 1
    have z2 := cells_at hZ 2
    have z3 := cells_at hZ 3
    have z4 := cells_at hZ 4
    simp only [List.getElem?_toArray, List.getElem?_cons_zero, List.getElem?_cons_succ] at z0 z1 z2 z3 z4
    have f0 := frozen_at hZ 0
    have f1 := frozen_at hZ 1
    have f2 := frozen_at hZ 2
    have f3 := frozen_at hZ 3
    have f4 := frozen_at hZ 4
    go_wp2_with fail
    refine bodyPost_ret (v := .tuple #[.agg #[.int .u64 0, .int .u64 0, .int .i64 0, .slice none 0 0, .slice none 0 0], .int .i64 14]) (by simp [results, Tryd.results29, go_sem, z0, z1, z2, z3, z4]) rfl ⟨by rw [HWY.out]; exact PtPost.zero 14 _ _, below5 hE.1 (Nat.le_succ _) _ _ _ _ _⟩
end Go.Proofs.YtdglhonogopciaaDoor
