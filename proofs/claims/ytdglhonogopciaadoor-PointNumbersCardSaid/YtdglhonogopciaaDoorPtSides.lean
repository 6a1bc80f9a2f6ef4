/- Both sides of chapter 20, whichever way they go: what the code and the document answer is one and the same. -/
import Derived.Test.YtdglhonogopciaaDoorPtRefDec
import Derived.Test.YtdglhonogopciaaDoorArg
namespace Go.Proofs.YtdglhonogopciaaDoor
open Go.RowKit

/-- what an encoder answers, whichever way it went -/
def EncPost (bs : List UInt8) (why : Nat) (B : Nat) (e : Ending) (w' : World) : Prop :=
  ∃ a len cap, e = .returned (.tuple #[.slice a len cap, .int .i64 (why : Int)]) ∧ Own w' B (.slice a len cap) bs ∧ Bs w' a len cap bs
theorem EncPost.none (why : Nat) (B : Nat) (w' : World) : EncPost [] why B (.returned (.tuple #[.slice none 0 0, .int .i64 (why : Int)])) w' := ⟨Option.none, 0, 0, rfl, Own.nil _ _, Bs.nil _⟩
theorem EncPost.own {bs : List UInt8} {why B : Nat} {v : Value} {w' : World} (h : Own w' B v bs) : EncPost bs why B (.returned (.tuple #[v, .int .i64 (why : Int)])) w' := by
  obtain ⟨a, c, rfl, hb⟩ := h.bsn (n := bs.length) rfl
  exact ⟨a, _, c, rfl, h, hb⟩
theorem penc_all (s p g : Int) (m : Mk) (ah al : Option Addr) (lh ch lt ct : Nat) (w : World) (hH : Bs w ah lh ch m.head) (hT : Bs w al lt ct m.state) :
    Calls Tryd.prog 18 #[.agg #[.int .i64 s, .int .i64 p, .int .i64 g], .agg #[.int .u64 (m.gen : Int), .int .u64 (m.seq : Int), .int .i64 m.seg, .slice ah lh ch, .slice al lt ct]] w fun e w' => EncPost (ptEnc s p g m).1 (ptEnc s p g m).2 w.heap.size e w' ∧ Below w.heap.size w w' := by
  have hl := hT.1
  unfold ptEnc
  by_cases h : isPlan s p g
  · by_cases hr : m.right g
    · by_cases hk : (lt : Int) ≤ 128 * p - 94
      · rw [if_neg (by simp [h]), if_neg (by simp [hr]), if_neg (by omega)]
        refine (penc_ok s p g m ah al lh ch lt ct w h hH hT hr hk).mono ?_
        rintro e w' ⟨v, rfl, ho, hb⟩
        exact ⟨EncPost.own ho, hb⟩
      · rw [if_neg (by simp [h]), if_neg (by simp [hr]), if_pos (by omega)]
        refine (penc_noroom s p g m ah al lh ch lt ct w h hH hT hr (by omega)).mono ?_
        rintro e w' ⟨rfl, hb⟩
        exact ⟨EncPost.none 15 _ _, hb⟩
    · rw [if_neg (by simp [h]), if_pos hr]
      refine (penc_noright s p g m ah al lh ch lt ct w h hH.1 hr).mono ?_
      rintro e w' ⟨rfl, hb⟩
      exact ⟨EncPost.none 12 _ _, hb⟩
  · rw [if_pos h]
    refine (penc_noplan s p g m ah al lh ch lt ct w h).mono ?_
    rintro e w' ⟨rfl, hb⟩
    exact ⟨EncPost.none 1 _ _, hb⟩
theorem rpenc_all (s p g : Int) (m : Mk) (ah al : Option Addr) (lh ch lt ct : Nat) (w : World) (hH : Bs w ah lh ch m.head) (hT : Bs w al lt ct m.state) :
    Calls Tryd.prog 11 #[.agg #[.int .i64 s, .int .i64 p, .int .i64 g], .agg #[.int .u64 (m.gen : Int), .int .u64 (m.seq : Int), .int .i64 m.seg, .slice ah lh ch, .slice al lt ct]] w fun e w' => EncPost (ptEnc s p g m).1 (ptEnc s p g m).2 w.heap.size e w' ∧ Below w.heap.size w w' := by
  have hl := hT.1
  unfold ptEnc
  by_cases h : isPlan s p g
  · by_cases hr : m.right g
    · by_cases hk : (lt : Int) ≤ 128 * p - 94
      · rw [if_neg (by simp [h]), if_neg (by simp [hr]), if_neg (by omega)]
        refine (rpenc_ok s p g m ah al lh ch lt ct w h hH hT hr hk).mono ?_
        rintro e w' ⟨v, rfl, ho, hb⟩
        exact ⟨EncPost.own ho, hb⟩
      · rw [if_neg (by simp [h]), if_neg (by simp [hr]), if_pos (by omega)]
        refine (rpenc_noroom s p g m ah al lh ch lt ct w h hH hT hr (by omega)).mono ?_
        rintro e w' ⟨rfl, hb⟩
        exact ⟨EncPost.none 15 _ _, hb⟩
    · rw [if_neg (by simp [h]), if_pos hr]
      refine (rpenc_noright s p g m ah al lh ch lt ct w h hH.1 hr).mono ?_
      rintro e w' ⟨rfl, hb⟩
      exact ⟨EncPost.none 12 _ _, hb⟩
  · rw [if_pos h]
    refine (rpenc_noplan s p g m ah al lh ch lt ct w h).mono ?_
    rintro e w' ⟨rfl, hb⟩
    exact ⟨EncPost.none 1 _ _, hb⟩
theorem room_all (s p g : Int) (w : World) : Calls Tryd.prog 21 #[.agg #[.int .i64 s, .int .i64 p, .int .i64 g]] w fun e w' => e = .returned (.int .i64 (ptRoom s p g)) ∧ Below w.heap.size w w' := by
  unfold ptRoom
  by_cases h : isPlan s p g
  · rw [if_pos h]; exact room_ok s p g w h
  · rw [if_neg h]; exact room_no s p g w h
theorem rroom_all (s p g : Int) (w : World) : Calls Tryd.prog 24 #[.agg #[.int .i64 s, .int .i64 p, .int .i64 g]] w fun e w' => e = .returned (.int .i64 (ptRoom s p g)) ∧ Below w.heap.size w w' := by
  unfold ptRoom
  by_cases h : isPlan s p g
  · rw [if_pos h]; exact rroom_ok s p g w h
  · rw [if_neg h]; exact rroom_no s p g w h
/-- both readers answer one and the same to the same bytes -/
theorem dec_all (s p g : Int) (xs : List UInt8) : ∃ why mk, ∀ (a : Option Addr) (len cap : Nat) (w : World), Bs w a len cap xs →
    (Calls Tryd.prog 19 #[.agg #[.int .i64 s, .int .i64 p, .int .i64 g], .slice a len cap] w fun e w' => PtPost why mk w.heap.size e w' ∧ Below w.heap.size w w') ∧
    (Calls Tryd.prog 29 #[.agg #[.int .i64 s, .int .i64 p, .int .i64 g], .slice a len cap] w fun e w' => PtPost why mk w.heap.size e w' ∧ Below w.heap.size w w') := by
  by_cases h : isPlan s p g ∧ (xs.length : Int) = 128 * p
  · obtain ⟨hp, hl⟩ := h
    have hbd := hp.bd
    obtain ⟨G, Q, S, HD, N, c, h, rest, n1, n2, n3, n4, n5, n6, n7, _, hx⟩ := pt_split xs (by omega)
    have hin : PtIn G Q S HD N c h := ⟨n1, n2, n3, n4, n5, n6, n7⟩
    subst hx
    exact ⟨_, _, fun a len cap w hB => ⟨pdec_ok s p g a len cap w G Q S N c HD h rest hp hB (by rw [← hB.1]; exact hl) hin, rpdec_ok s p g a len cap w G Q S N c HD h rest hp hB (by rw [← hB.1]; exact hl) hin⟩⟩
  · refine ⟨1, Mk.zero, fun a len cap w hB => ?_⟩
    have hn : ¬ isPlan s p g ∨ (len : Int) ≠ 128 * p := by
      by_cases hp : isPlan s p g
      · exact .inr (fun hl => h ⟨hp, by rw [hB.1]; exact hl⟩)
      · exact .inl hp
    exact ⟨pdec_arg s p g a len cap w hn, rpdec_arg s p g a len cap w hn⟩
set_option maxRecDepth 100000 in
theorem lin_any (G Q S : Int) (ah al : Option Addr) (lh ch lt ct : Nat) (w : World) :
    Calls Tryd.prog 12 #[.agg #[.int .u64 G, .int .u64 Q, .int .i64 S, .slice ah lh ch, .slice al lt ct]] w fun e w' => e = .returned (.agg #[.int .u64 G, .int .u64 Q, .int .i64 S, .slice ah lh ch, .slice al lt ct]) ∧ Below w.heap.size w w' := by
  obtain ⟨H, hH⟩ : ∃ H, H = w.heap.size := ⟨_, rfl⟩
  have hE := ((Ext.refl w).alloc (.cells #[.int .u64 G, .int .u64 Q, .int .i64 S, .slice ah lh ch, .slice al lt ct] 25)).alloc (.cells #[.int .u64 0, .int .u64 0, .int .i64 0, .slice none 0 0, .slice none 0 0] 37)
  have hP := (Below.heap_alloc (w.alloc (.cells #[.int .u64 G, .int .u64 Q, .int .i64 S, .slice ah lh ch, .slice al lt ct] 25)) (.cells #[.int .u64 0, .int .u64 0, .int .i64 0, .slice none 0 0, .slice none 0 0] 37) w.heap.size (by simp)).trans (heap_alloc_new w (.cells #[.int .u64 G, .int .u64 Q, .int .i64 S, .slice ah lh ch, .slice al lt ct] 25))
  have hZ := heap_alloc_new (w.alloc (.cells #[.int .u64 G, .int .u64 Q, .int .i64 S, .slice ah lh ch, .slice al lt ct] 25)) (.cells #[.int .u64 0, .int .u64 0, .int .i64 0, .slice none 0 0, .slice none 0 0] 37)
  rw [World.size_alloc] at hZ
  rw [← hH] at hE hP hZ ⊢
  have HH := Lib.hid hH
  have HW := Lib.hid (And.intro hE (And.intro hP hZ))
  clear hE hP hZ hH
  go_enter Tryd.func12, Tryd.ntmps12
  go_upto_region 1 with fail
  rw [← HH.out]
  obtain ⟨hE, hP, hZ⟩ := HW.out
  clear HW
  generalize (w.alloc (.cells #[.int .u64 G, .int .u64 Q, .int .i64 S, .slice ah lh ch, .slice al lt ct] 25)).alloc (.cells #[.int .u64 0, .int .u64 0, .int .i64 0, .slice none 0 0, .slice none 0 0] 37) = w0 at *
  have x0 := cells_at hP 0
  have x1 := cells_at hP 1
  have x2 := cells_at hP 2
  have x3 := cells_at hP 3
  have x4 := cells_at hP 4
  simp only [List.getElem?_toArray, List.getElem?_cons_zero, List.getElem?_cons_succ] at x0 x1 x2 x3 x4
  have hz := lt_of_heap hZ
  have z0 := cells_at hZ 0
  have z1 := cells_at hZ 1
  have z2 := cells_at hZ 2
  have z3 := cells_at hZ 3
  have z4 := cells_at hZ 4
  simp only [List.getElem?_toArray, List.getElem?_cons_zero, List.getElem?_cons_succ] at z0 z1 z2 z3 z4
  have f0 := frozen_at hZ 0
  have f1 := frozen_at hZ 1
  have f2 := frozen_at hZ 2
  have f3 := frozen_at hZ 3
  have f4 := frozen_at hZ 4
  go_wp2_with fail
  refine bodyPost_ret (v := .agg #[.int .u64 G, .int .u64 Q, .int .i64 S, .slice ah lh ch, .slice al lt ct]) (by simp [results, Tryd.results12, go_sem, z0, z1, z2, z3, z4]) rfl ⟨rfl, below5 hE.1 (Nat.le_succ _) _ _ _ _ _⟩
set_option maxHeartbeats 1000000 in
set_option maxRecDepth 100000 in
theorem lsame_any (s p g : Int) (m : Mk) (ah al : Option Addr) (lh ch lt ct : Nat) (w : World) (hA : Bs w ah lh ch m.head) (hB : Bs w al lt ct m.state) :
    Calls Tryd.prog 13 #[.agg #[.int .i64 s, .int .i64 p, .int .i64 g], .agg #[.int .i64 s, .int .i64 p, .int .i64 g], .agg #[.int .u64 (m.gen : Int), .int .u64 (m.seq : Int), .int .i64 m.seg, .slice ah lh ch, .slice al lt ct]] w fun e w' => e = .returned (.bool true) ∧ Below w.heap.size w w' := by
  obtain ⟨H, hH⟩ : ∃ H, H = w.heap.size := ⟨_, rfl⟩
  have HE1 := Lib.hid (fun w hA hB => penc_all s p g m ah al lh ch lt ct w hA hB)
  have HE2 := Lib.hid (fun w hA hB => rpenc_all s p g m ah al lh ch lt ct w hA hB)
  generalize (ptEnc s p g m).1 = L at *
  generalize (ptEnc s p g m).2 = why at *
  have hE := (((Ext.refl w).alloc (.cells #[.int .i64 s, .int .i64 p, .int .i64 g] 31)).alloc (.cells #[.int .i64 s, .int .i64 p, .int .i64 g] 32)).alloc (.cells #[.int .u64 (m.gen : Int), .int .u64 (m.seq : Int), .int .i64 m.seg, .slice ah lh ch, .slice al lt ct] 25)
  replace hA := ((hA.alloc (.cells #[.int .i64 s, .int .i64 p, .int .i64 g] 31)).alloc (.cells #[.int .i64 s, .int .i64 p, .int .i64 g] 32)).alloc (.cells #[.int .u64 (m.gen : Int), .int .u64 (m.seq : Int), .int .i64 m.seg, .slice ah lh ch, .slice al lt ct] 25)
  replace hB := ((hB.alloc (.cells #[.int .i64 s, .int .i64 p, .int .i64 g] 31)).alloc (.cells #[.int .i64 s, .int .i64 p, .int .i64 g] 32)).alloc (.cells #[.int .u64 (m.gen : Int), .int .u64 (m.seq : Int), .int .i64 m.seg, .slice ah lh ch, .slice al lt ct] 25)
  have hP : AtK (((w.alloc (.cells #[.int .i64 s, .int .i64 p, .int .i64 g] 31)).alloc (.cells #[.int .i64 s, .int .i64 p, .int .i64 g] 32)).alloc (.cells #[.int .u64 (m.gen : Int), .int .u64 (m.seq : Int), .int .i64 m.seg, .slice ah lh ch, .slice al lt ct] 25)) H (.cells #[.int .i64 s, .int .i64 p, .int .i64 g] 31 (0, 0)) := (Below.heap_alloc ((w.alloc (.cells #[.int .i64 s, .int .i64 p, .int .i64 g] 31)).alloc (.cells #[.int .i64 s, .int .i64 p, .int .i64 g] 32)) (.cells #[.int .u64 (m.gen : Int), .int .u64 (m.seq : Int), .int .i64 m.seg, .slice ah lh ch, .slice al lt ct] 25) H (by simp; omega)).trans ((Below.heap_alloc (w.alloc (.cells #[.int .i64 s, .int .i64 p, .int .i64 g] 31)) (.cells #[.int .i64 s, .int .i64 p, .int .i64 g] 32) H (by simp; omega)).trans (by rw [hH]; exact heap_alloc_new w _))
  have hQ : AtK (((w.alloc (.cells #[.int .i64 s, .int .i64 p, .int .i64 g] 31)).alloc (.cells #[.int .i64 s, .int .i64 p, .int .i64 g] 32)).alloc (.cells #[.int .u64 (m.gen : Int), .int .u64 (m.seq : Int), .int .i64 m.seg, .slice ah lh ch, .slice al lt ct] 25)) (H + 1) (.cells #[.int .i64 s, .int .i64 p, .int .i64 g] 32 (0, 0)) := (Below.heap_alloc ((w.alloc (.cells #[.int .i64 s, .int .i64 p, .int .i64 g] 31)).alloc (.cells #[.int .i64 s, .int .i64 p, .int .i64 g] 32)) (.cells #[.int .u64 (m.gen : Int), .int .u64 (m.seq : Int), .int .i64 m.seg, .slice ah lh ch, .slice al lt ct] 25) (H + 1) (by simp; omega)).trans (by rw [hH, ← World.size_alloc w (.cells #[.int .i64 s, .int .i64 p, .int .i64 g] 31)]; exact heap_alloc_new _ _)
  have hM : AtK (((w.alloc (.cells #[.int .i64 s, .int .i64 p, .int .i64 g] 31)).alloc (.cells #[.int .i64 s, .int .i64 p, .int .i64 g] 32)).alloc (.cells #[.int .u64 (m.gen : Int), .int .u64 (m.seq : Int), .int .i64 m.seg, .slice ah lh ch, .slice al lt ct] 25)) (H + 2) (.cells #[.int .u64 (m.gen : Int), .int .u64 (m.seq : Int), .int .i64 m.seg, .slice ah lh ch, .slice al lt ct] 25 (0, 0)) := by
    have := heap_alloc_new ((w.alloc (.cells #[.int .i64 s, .int .i64 p, .int .i64 g] 31)).alloc (.cells #[.int .i64 s, .int .i64 p, .int .i64 g] 32)) (.cells #[.int .u64 (m.gen : Int), .int .u64 (m.seq : Int), .int .i64 m.seg, .slice ah lh ch, .slice al lt ct] 25)
    rw [World.size_alloc, World.size_alloc, ← hH] at this
    exact this
  rw [← hH] at hE ⊢
  have HH := Lib.hid hH
  have HW := Lib.hid (And.intro hE (And.intro hP (And.intro hQ (And.intro hM (And.intro hA hB)))))
  have HX := HW
  clear hE hP hQ hM hA hB hH
  go_enter Tryd.func13, Tryd.ntmps13
  go_upto_region 1 with fail
  rw [← HH.out]
  obtain ⟨hE, hP, hQ, hM, hA, hB⟩ := HW.out
  clear HW HX
  generalize (((w.alloc (.cells #[.int .i64 s, .int .i64 p, .int .i64 g] 31)).alloc (.cells #[.int .i64 s, .int .i64 p, .int .i64 g] 32)).alloc (.cells #[.int .u64 (m.gen : Int), .int .u64 (m.seq : Int), .int .i64 m.seg, .slice ah lh ch, .slice al lt ct] 25)) = w0 at *
  have x0 := cells_at hP 0
  have x1 := cells_at hP 1
  have x2 := cells_at hP 2
  simp only [List.getElem?_toArray, List.getElem?_cons_zero, List.getElem?_cons_succ] at x0 x1 x2
  have z0 := cells_at hM 0
  have z1 := cells_at hM 1
  have z2 := cells_at hM 2
  have z3 := cells_at hM 3
  have z4 := cells_at hM 4
  simp only [List.getElem?_toArray, List.getElem?_cons_zero, List.getElem?_cons_succ] at z0 z1 z2 z3 z4
  go_wp2_with fail
  refine (HE1.out _ hA hB).mono ?_
  rintro e w1 ⟨⟨a1, k1, c1, rfl, ho1, hS1⟩, hb⟩
  replace hE := hE.step hb
  replace hP := hP.below hb
  replace hQ := hQ.below hb
  replace hM := hM.below hb
  replace hA := hA.below hb
  replace hB := hB.below hb
  clear ho1 x0 x1 x2 z0 z1 z2 z3 z4 hb
  go_upto_region 2 with fail
  obtain ⟨wd, hwd⟩ : ∃ wd, wd = w1.drew := ⟨_, rfl⟩
  have hb : Below w1.heap.size w1 wd := by rw [hwd]; exact (Below.refl _ _).drew
  have hS1 := hS1.below hb
  have hA := hA.below hb
  have hB := hB.below hb
  have hP := hP.below hb
  have hQ := hQ.below hb
  have hM := hM.below hb
  have hE := hE.step hb
  clear hb
  refine held_start (by kernel_rfl) (fun hHeld => ?_)
  rw [← hwd] at hHeld ⊢
  clear hwd
  refine held_take (i := 0) (v := ?_) 18 rfl (by kernel_rfl) (by kernel_rfl) (by kernel_rfl) (fun _ _ _ h => h) rfl (by assumption) (Or.inl ⟨by rfl, ?_⟩) ?_
  rotate_left
  · intro w hSw; have y0 := cells_at (hQ.below hSw) 0; have y1 := cells_at (hQ.below hSw) 1; have y2 := cells_at (hQ.below hSw) 2; simp only [List.getElem?_toArray, List.getElem?_cons_zero, List.getElem?_cons_succ] at y0 y1 y2; go_simp; (try with_reducible rfl)
  simp only [List.set_cons_zero, List.set_cons_succ]
  refine held_take (i := 1) (v := ?_) 19 rfl (by kernel_rfl) (by kernel_rfl) (by kernel_rfl) (fun _ _ _ h => h) rfl (by assumption) (Or.inl ⟨by rfl, ?_⟩) ?_
  rotate_left
  · intro w hSw; have y0 := cells_at (hM.below hSw) 0; have y1 := cells_at (hM.below hSw) 1; have y2 := cells_at (hM.below hSw) 2; have y3 := cells_at (hM.below hSw) 3; have y4 := cells_at (hM.below hSw) 4; simp only [List.getElem?_toArray, List.getElem?_cons_zero, List.getElem?_cons_succ] at y0 y1 y2 y3 y4; go_simp; (try with_reducible rfl)
  simp only [List.set_cons_zero, List.set_cons_succ]
  refine wpAnyH_ready (rs := [2]) (by kernel_rfl) (by simp) ?_
  refine (AllReadyH.cons rfl (fun K hK => ?_) AllReadyH.nil)
  go_simp
  refine (lin_any _ _ _ _ _ _ _ _ _ _).mono ?_
  rintro e w1x ⟨rfl, hb⟩
  have hbt := HB.trans hHeld hb
  have hS1 := hS1.below hbt
  have hA := hA.below hbt
  have hB := hB.below hbt
  have hP := hP.below hbt
  have hQ := hQ.below hbt
  have hM := hM.below hbt
  have hE := hE.step hbt
  go_wp2_with fail
  refine hK.out _ _ hbt (fun _ => held_next hbt (fun hHeld2 => ?_))
  clear hK hHeld hb hbt K
  have hHeld := hHeld2
  clear hHeld2
  refine wpAnyH_ready (rs := [3]) (by kernel_rfl) (by simp) ?_
  refine (AllReadyH.cons rfl (fun K hK => ?_) AllReadyH.nil)
  go_simp
  refine (HE2.out _ (hA.below hHeld) (hB.below hHeld)).mono ?_
  rintro e w2x ⟨⟨a2, k2, c2, rfl, ho2, hS2⟩, hb⟩
  have hbt := HB.trans hHeld hb
  have hS1 := hS1.below hbt
  have hA := hA.below hbt
  have hB := hB.below hbt
  have hP := hP.below hbt
  have hQ := hQ.below hbt
  have hM := hM.below hbt
  have hE := hE.step hbt
  clear ho2
  go_wp2_with fail
  refine hK.out _ _ hbt (fun _ => held_next hbt (fun hHeld2 => ?_))
  clear hK hHeld hb hbt K
  have hHeld := hHeld2
  clear hHeld2
  refine held_take (i := 4) (v := ?_) 17 rfl (by kernel_rfl) (by kernel_rfl) (by kernel_rfl) (fun _ _ _ h => h) rfl (by assumption) (Or.inl ⟨by rfl, ?_⟩) ?_
  rotate_left
  · intro w hSw; go_simp; (try with_reducible rfl)
  simp only [List.set_cons_zero, List.set_cons_succ]
  refine held_take (i := 5) (v := ?_) 22 rfl (by kernel_rfl) (by kernel_rfl) (by kernel_rfl) (fun _ _ _ h => h) rfl (by assumption) (Or.inl ⟨by rfl, ?_⟩) ?_
  rotate_left
  · intro w hSw; go_simp; (try with_reducible rfl)
  simp only [List.set_cons_zero, List.set_cons_succ]
  refine held_take (i := 6) (v := ?_) 23 rfl (by kernel_rfl) (by kernel_rfl) (by kernel_rfl) (fun _ _ _ h => h) rfl (by assumption) (Or.inl ⟨by rfl, ?_⟩) ?_
  rotate_left
  · intro w hSw; go_simp; (try with_reducible rfl)
  simp only [List.set_cons_zero, List.set_cons_succ]
  refine held_take (i := 7) (v := ?_) 9 rfl (by kernel_rfl) (by kernel_rfl) (by kernel_rfl) (fun _ _ _ h => h) rfl (by assumption) (Or.inl ⟨by rfl, ?_⟩) ?_
  rotate_left
  · intro w hSw; go_simp; (try with_reducible rfl)
  simp only [List.set_cons_zero, List.set_cons_succ]
  refine held_take (i := 8) (v := ?_) 10 rfl (by kernel_rfl) (by kernel_rfl) (by kernel_rfl) (fun _ _ _ h => h) rfl (by assumption) (Or.inl ⟨by rfl, ?_⟩) ?_
  rotate_left
  · intro w hSw; go_simp; (try with_reducible rfl)
  simp only [List.set_cons_zero, List.set_cons_succ]
  refine wpAnyH_done (by kernel_rfl) ?_ _
  go_upto_region 3 with fail
  obtain ⟨wd, hwd⟩ : ∃ wd, wd = w2x.drew := ⟨_, rfl⟩
  have hb : Below w2x.heap.size w2x wd := by rw [hwd]; exact (Below.refl _ _).drew
  have hS1 := hS1.below hb
  have hS2 := hS2.below hb
  have hP := hP.below hb
  have hQ := hQ.below hb
  have hE := hE.step hb
  clear hb
  refine held_start (by kernel_rfl) (fun hHeld => ?_)
  rw [← hwd] at hHeld ⊢
  clear hwd
  refine held_take (i := 0) (v := ?_) 24 rfl (by kernel_rfl) (by kernel_rfl) (by kernel_rfl) (fun _ _ _ h => h) rfl (by assumption) (Or.inl ⟨by rfl, ?_⟩) ?_
  rotate_left
  · intro w hSw; go_simp; (try with_reducible rfl)
  simp only [List.set_cons_zero, List.set_cons_succ]
  refine held_take (i := 1) (v := ?_) 25 rfl (by kernel_rfl) (by kernel_rfl) (by kernel_rfl) (fun _ _ _ h => h) rfl (by assumption) (Or.inl ⟨by rfl, ?_⟩) ?_
  rotate_left
  · intro w hSw; have hs := run_string (hS1.below hSw); go_simp; (try with_reducible rfl)
  simp only [List.set_cons_zero, List.set_cons_succ]
  refine held_take (i := 2) (v := ?_) 26 rfl (by kernel_rfl) (by kernel_rfl) (by kernel_rfl) (fun _ _ _ h => h) rfl (by assumption) (Or.inl ⟨by rfl, ?_⟩) ?_
  rotate_left
  · intro w hSw; go_simp; (try with_reducible rfl)
  simp only [List.set_cons_zero, List.set_cons_succ]
  refine held_take (i := 3) (v := ?_) 27 rfl (by kernel_rfl) (by kernel_rfl) (by kernel_rfl) (fun _ _ _ h => h) rfl (by assumption) (Or.inl ⟨by rfl, ?_⟩) ?_
  rotate_left
  · intro w hSw; have hs := run_string (hS2.below hSw); go_simp; (try with_reducible rfl)
  simp only [List.set_cons_zero, List.set_cons_succ]
  refine held_take (i := 4) (v := ?_) 28 rfl (by kernel_rfl) (by kernel_rfl) (by kernel_rfl) (fun _ _ _ h => h) rfl (by assumption) (Or.inl ⟨by rfl, ?_⟩) ?_
  rotate_left
  · intro w hSw; go_simp; (try with_reducible rfl)
  simp only [List.set_cons_zero, List.set_cons_succ]
  refine held_take (i := 5) (v := ?_) 29 rfl (by kernel_rfl) (by kernel_rfl) (by kernel_rfl) (fun _ _ _ h => h) rfl (by assumption) (Or.inl ⟨by rfl, ?_⟩) ?_
  rotate_left
  · intro w hSw; go_simp; (try with_reducible rfl)
  simp only [List.set_cons_zero, List.set_cons_succ]
  refine held_take (i := 6) (v := ?_) 30 rfl (by kernel_rfl) (by kernel_rfl) (by kernel_rfl) (fun _ _ _ h => h) rfl (by assumption) (Or.inl ⟨by rfl, ?_⟩) ?_
  rotate_left
  · intro w hSw; go_simp; (try with_reducible rfl)
  simp only [List.set_cons_zero, List.set_cons_succ]
  refine held_take (i := 7) (v := ?_) 31 rfl (by kernel_rfl) (by kernel_rfl) (by kernel_rfl) (fun _ _ _ h => h) rfl (by assumption) (Or.inl ⟨by rfl, ?_⟩) ?_
  rotate_left
  · intro w hSw; go_simp; (try with_reducible rfl)
  simp only [List.set_cons_zero, List.set_cons_succ]
  refine held_take (i := 8) (v := ?_) 32 rfl (by kernel_rfl) (by kernel_rfl) (by kernel_rfl) (fun _ _ _ h => h) rfl (by assumption) (Or.inl ⟨by rfl, ?_⟩) ?_
  rotate_left
  · intro w hSw; go_simp; (try with_reducible rfl)
  simp only [List.set_cons_zero, List.set_cons_succ]
  refine held_take (i := 9) (v := ?_) 33 rfl (by kernel_rfl) (by kernel_rfl) (by kernel_rfl) (fun _ _ _ h => h) rfl (by assumption) (Or.inl ⟨by rfl, ?_⟩) ?_
  rotate_left
  · intro w hSw; go_simp; (try with_reducible rfl)
  simp only [List.set_cons_zero, List.set_cons_succ]
  refine held_take (i := 10) (v := ?_) 34 rfl (by kernel_rfl) (by kernel_rfl) (by kernel_rfl) (fun _ _ _ h => h) rfl (by assumption) (Or.inl ⟨by rfl, ?_⟩) ?_
  rotate_left
  · intro w hSw; go_simp; (try with_reducible rfl)
  simp only [List.set_cons_zero, List.set_cons_succ]
  refine held_take (i := 11) (v := ?_) 35 rfl (by kernel_rfl) (by kernel_rfl) (by kernel_rfl) (fun _ _ _ h => h) rfl (by assumption) (Or.inl ⟨by rfl, ?_⟩) ?_
  rotate_left
  · intro w hSw; have y0 := cells_at (hP.below hSw) 0; have y1 := cells_at (hP.below hSw) 1; have y2 := cells_at (hP.below hSw) 2; simp only [List.getElem?_toArray, List.getElem?_cons_zero, List.getElem?_cons_succ] at y0 y1 y2; go_simp; (try with_reducible rfl)
  simp only [List.set_cons_zero, List.set_cons_succ]
  refine held_take (i := 13) (v := ?_) 37 rfl (by kernel_rfl) (by kernel_rfl) (by kernel_rfl) (fun _ _ _ h => h) rfl (by assumption) (Or.inl ⟨by rfl, ?_⟩) ?_
  rotate_left
  · intro w hSw; have y0 := cells_at (hQ.below hSw) 0; have y1 := cells_at (hQ.below hSw) 1; have y2 := cells_at (hQ.below hSw) 2; simp only [List.getElem?_toArray, List.getElem?_cons_zero, List.getElem?_cons_succ] at y0 y1 y2; go_simp; (try with_reducible rfl)
  simp only [List.set_cons_zero, List.set_cons_succ]
  refine wpAnyH_ready (rs := [12]) (by kernel_rfl) (by simp) ?_
  refine (AllReadyH.cons rfl (fun K hK => ?_) AllReadyH.nil)
  go_simp
  refine (room_all s p g _).mono ?_
  rintro e w1x ⟨rfl, hb⟩
  have hbt := HB.trans hHeld hb
  have hS1 := hS1.below hbt
  have hS2 := hS2.below hbt
  have hP := hP.below hbt
  have hQ := hQ.below hbt
  have hE := hE.step hbt
  go_wp2_with fail
  refine hK.out _ _ hbt (fun _ => held_next hbt (fun hHeld2 => ?_))
  clear hK hHeld hb hbt K
  have hHeld := hHeld2
  clear hHeld2
  refine wpAnyH_ready (rs := [14]) (by kernel_rfl) (by simp) ?_
  refine (AllReadyH.cons rfl (fun K hK => ?_) AllReadyH.nil)
  go_simp
  refine (rroom_all s p g _).mono ?_
  rintro e w2x ⟨rfl, hb⟩
  have hbt := HB.trans hHeld hb
  have hS1 := hS1.below hbt
  have hS2 := hS2.below hbt
  have hP := hP.below hbt
  have hQ := hQ.below hbt
  have hE := hE.step hbt
  go_wp2_with fail
  refine hK.out _ _ hbt (fun _ => held_next hbt (fun hHeld2 => ?_))
  clear hK hHeld hb hbt K
  have hHeld := hHeld2
  clear hHeld2
  refine held_take (i := 15) (v := ?_) 39 rfl (by kernel_rfl) (by kernel_rfl) (by kernel_rfl) (fun _ _ _ h => h) rfl (by assumption) (Or.inl ⟨by rfl, ?_⟩) ?_
  rotate_left
  · intro w hSw; go_simp; (try with_reducible rfl)
  simp only [List.set_cons_zero, List.set_cons_succ]
  refine held_take (i := 16) (v := ?_) 40 rfl (by kernel_rfl) (by kernel_rfl) (by kernel_rfl) (fun _ _ _ h => h) rfl (by assumption) (Or.inl ⟨by rfl, ?_⟩) ?_
  rotate_left
  · intro w hSw; go_simp; (try with_reducible rfl)
  simp only [List.set_cons_zero, List.set_cons_succ]
  refine held_take (i := 17) (v := ?_) 6 rfl (by kernel_rfl) (by kernel_rfl) (by kernel_rfl) (fun _ _ _ h => h) rfl (by assumption) (Or.inl ⟨by rfl, ?_⟩) ?_
  rotate_left
  · intro w hSw; go_simp; (try with_reducible rfl)
  simp only [List.set_cons_zero, List.set_cons_succ]
  refine wpAnyH_done (by kernel_rfl) ?_ _
  go_wp2_with fail
  go_ret
  exact ⟨rfl, hE.1⟩
theorem own_bsOf {w : World} {B : Nat} {a : Option Addr} {l c : Nat} {xs : List UInt8} (h : Own w B (.slice a l c) xs) : Bs w a l c xs := by
  obtain ⟨a', c', hv, hb⟩ := h.bs
  cases hv
  exact hb
set_option maxHeartbeats 1000000 in
set_option maxRecDepth 100000 in
theorem lread_any (s p g : Int) (a : Option Addr) (len cap : Nat) (xs : List UInt8) (w : World) (hB : Bs w a len cap xs) :
    Calls Tryd.prog 14 #[.agg #[.int .i64 s, .int .i64 p, .int .i64 g], .agg #[.int .i64 s, .int .i64 p, .int .i64 g], .slice a len cap] w fun e w' => e = .returned (.bool true) ∧ Below w.heap.size w w' := by
  obtain ⟨H, hH⟩ : ∃ H, H = w.heap.size := ⟨_, rfl⟩
  obtain ⟨why, mk, hD⟩ := dec_all s p g xs
  have HD := Lib.hid hD
  clear hD
  have hE := ((Ext.refl w).alloc (.cells #[.int .i64 s, .int .i64 p, .int .i64 g] 31)).alloc (.cells #[.int .i64 s, .int .i64 p, .int .i64 g] 32)
  replace hB := (hB.alloc (.cells #[.int .i64 s, .int .i64 p, .int .i64 g] 31)).alloc (.cells #[.int .i64 s, .int .i64 p, .int .i64 g] 32)
  have hP : AtK ((w.alloc (.cells #[.int .i64 s, .int .i64 p, .int .i64 g] 31)).alloc (.cells #[.int .i64 s, .int .i64 p, .int .i64 g] 32)) H (.cells #[.int .i64 s, .int .i64 p, .int .i64 g] 31 (0, 0)) := (Below.heap_alloc (w.alloc (.cells #[.int .i64 s, .int .i64 p, .int .i64 g] 31)) (.cells #[.int .i64 s, .int .i64 p, .int .i64 g] 32) H (by simp; omega)).trans (by rw [hH]; exact heap_alloc_new w _)
  have hQ : AtK ((w.alloc (.cells #[.int .i64 s, .int .i64 p, .int .i64 g] 31)).alloc (.cells #[.int .i64 s, .int .i64 p, .int .i64 g] 32)) (H + 1) (.cells #[.int .i64 s, .int .i64 p, .int .i64 g] 32 (0, 0)) := by
    have := heap_alloc_new (w.alloc (.cells #[.int .i64 s, .int .i64 p, .int .i64 g] 31)) (.cells #[.int .i64 s, .int .i64 p, .int .i64 g] 32)
    rw [World.size_alloc, ← hH] at this
    exact this
  rw [← hH] at hE ⊢
  have HH := Lib.hid hH
  have HW := Lib.hid (And.intro hE (And.intro hP (And.intro hQ hB)))
  clear hE hP hQ hB hH
  go_enter Tryd.func14, Tryd.ntmps14
  go_upto_region 1 with fail
  rw [← HH.out]
  obtain ⟨hE, hP, hQ, hB⟩ := HW.out
  clear HW
  generalize ((w.alloc (.cells #[.int .i64 s, .int .i64 p, .int .i64 g] 31)).alloc (.cells #[.int .i64 s, .int .i64 p, .int .i64 g] 32)) = w0 at *
  have x0 := cells_at hP 0
  have x1 := cells_at hP 1
  have x2 := cells_at hP 2
  simp only [List.getElem?_toArray, List.getElem?_cons_zero, List.getElem?_cons_succ] at x0 x1 x2
  go_wp2_with fail
  refine (HD.out _ _ _ _ hB).1.mono ?_
  rintro e w1 ⟨⟨ah1, lh1, ch1, al1, lt1, ct1, rfl, ho1, hp1⟩, hb⟩
  replace hE := (hE.step hb).alloc (.cells #[.int .u64 (mk.gen : Int), .int .u64 (mk.seq : Int), .int .i64 mk.seg, .slice ah1 lh1 ch1, .slice al1 lt1 ct1] 25)
  replace hQ := (hQ.below hb).below ((Below.refl _ _).alloc (Nat.le_refl _) (.cells #[.int .u64 (mk.gen : Int), .int .u64 (mk.seq : Int), .int .i64 mk.seg, .slice ah1 lh1 ch1, .slice al1 lt1 ct1] 25))
  replace hB := (hB.below hb).alloc (.cells #[.int .u64 (mk.gen : Int), .int .u64 (mk.seq : Int), .int .i64 mk.seg, .slice ah1 lh1 ch1, .slice al1 lt1 ct1] 25)
  have hS1 := (own_bsOf ho1).alloc (.cells #[.int .u64 (mk.gen : Int), .int .u64 (mk.seq : Int), .int .i64 mk.seg, .slice ah1 lh1 ch1, .slice al1 lt1 ct1] 25)
  have hT1 := (own_bsOf hp1).alloc (.cells #[.int .u64 (mk.gen : Int), .int .u64 (mk.seq : Int), .int .i64 mk.seg, .slice ah1 lh1 ch1, .slice al1 lt1 ct1] 25)
  have hX : AtK (w1.alloc (.cells #[.int .u64 (mk.gen : Int), .int .u64 (mk.seq : Int), .int .i64 mk.seg, .slice ah1 lh1 ch1, .slice al1 lt1 ct1] 25)) w1.heap.size (.cells #[.int .u64 (mk.gen : Int), .int .u64 (mk.seq : Int), .int .i64 mk.seg, .slice ah1 lh1 ch1, .slice al1 lt1 ct1] 25 (0, 0)) := heap_alloc_new w1 _
  clear hP x0 x1 x2 hb ho1 hp1
  go_upto_region 2 with fail
  generalize w1.alloc (.cells #[.int .u64 (mk.gen : Int), .int .u64 (mk.seq : Int), .int .i64 mk.seg, .slice ah1 lh1 ch1, .slice al1 lt1 ct1] 25) = w2 at *
  generalize w1.heap.size = X at *
  have x0 := cells_at hQ 0
  have x1 := cells_at hQ 1
  have x2 := cells_at hQ 2
  simp only [List.getElem?_toArray, List.getElem?_cons_zero, List.getElem?_cons_succ] at x0 x1 x2
  go_wp2_with fail
  refine (HD.out _ _ _ _ hB).2.mono ?_
  rintro e w3 ⟨⟨ah2, lh2, ch2, al2, lt2, ct2, rfl, ho2, hp2⟩, hb⟩
  replace hE := (hE.step hb).alloc (.cells #[.int .u64 (mk.gen : Int), .int .u64 (mk.seq : Int), .int .i64 mk.seg, .slice ah2 lh2 ch2, .slice al2 lt2 ct2] 37)
  replace hX := (hX.below hb).below ((Below.refl _ _).alloc (Nat.le_refl _) (.cells #[.int .u64 (mk.gen : Int), .int .u64 (mk.seq : Int), .int .i64 mk.seg, .slice ah2 lh2 ch2, .slice al2 lt2 ct2] 37))
  replace hS1 := (hS1.below hb).alloc (.cells #[.int .u64 (mk.gen : Int), .int .u64 (mk.seq : Int), .int .i64 mk.seg, .slice ah2 lh2 ch2, .slice al2 lt2 ct2] 37)
  replace hT1 := (hT1.below hb).alloc (.cells #[.int .u64 (mk.gen : Int), .int .u64 (mk.seq : Int), .int .i64 mk.seg, .slice ah2 lh2 ch2, .slice al2 lt2 ct2] 37)
  have hS2 := (own_bsOf ho2).alloc (.cells #[.int .u64 (mk.gen : Int), .int .u64 (mk.seq : Int), .int .i64 mk.seg, .slice ah2 lh2 ch2, .slice al2 lt2 ct2] 37)
  have hT2 := (own_bsOf hp2).alloc (.cells #[.int .u64 (mk.gen : Int), .int .u64 (mk.seq : Int), .int .i64 mk.seg, .slice ah2 lh2 ch2, .slice al2 lt2 ct2] 37)
  have hY : AtK (w3.alloc (.cells #[.int .u64 (mk.gen : Int), .int .u64 (mk.seq : Int), .int .i64 mk.seg, .slice ah2 lh2 ch2, .slice al2 lt2 ct2] 37)) w3.heap.size (.cells #[.int .u64 (mk.gen : Int), .int .u64 (mk.seq : Int), .int .i64 mk.seg, .slice ah2 lh2 ch2, .slice al2 lt2 ct2] 37 (0, 0)) := heap_alloc_new w3 _
  clear hQ hB x0 x1 x2 hb ho2 hp2 HD
  go_upto_region 3 with fail
  generalize w3.alloc (.cells #[.int .u64 (mk.gen : Int), .int .u64 (mk.seq : Int), .int .i64 mk.seg, .slice ah2 lh2 ch2, .slice al2 lt2 ct2] 37) = w4 at *
  generalize w3.heap.size = Y at *
  have x0 := cells_at hX 0
  have x1 := cells_at hX 1
  have x2 := cells_at hX 2
  have x3 := cells_at hX 3
  have x4 := cells_at hX 4
  simp only [List.getElem?_toArray, List.getElem?_cons_zero, List.getElem?_cons_succ] at x0 x1 x2 x3 x4
  have y0 := cells_at hY 0
  have y1 := cells_at hY 1
  have y2 := cells_at hY 2
  have y3 := cells_at hY 3
  have y4 := cells_at hY 4
  simp only [List.getElem?_toArray, List.getElem?_cons_zero, List.getElem?_cons_succ] at y0 y1 y2 y3 y4
  have s1 := run_string hS1
  have s2 := run_string hT1
  have s3 := run_string hS2
  have s4 := run_string hT2
  go_wp2_with fail
  go_ret
  exact ⟨rfl, hE.1⟩
theorem five_of {l : List Value} (h : l.length = 5) : ∃ x0 x1 x2 x3 x4, l = [x0, x1, x2, x3, x4] := by
  match l, h with
  | [x0, x1, x2, x3, x4], _ => exact ⟨x0, x1, x2, x3, x4, rfl⟩
set_option maxRecDepth 100000 in
theorem Arg.mark {w : World} {v : Value} (h : Arg Tryd.prog w 25 v) :
    ∃ (gen sq : Nat) (sg : Int) (ha : Option Addr) (hl hc : Nat) (hs : List UInt8) (sa : Option Addr) (sl sc : Nat) (ss : List UInt8), v = .agg #[.int .u64 (gen : Int), .int .u64 (sq : Int), .int .i64 sg, .slice ha hl hc, .slice sa sl sc] ∧ gen < 18446744073709551616 ∧ sq < 18446744073709551616 ∧ Bs w ha hl hc hs ∧ Bs w sa sl sc ss := by
  obtain ⟨cs, rfl, hsz, hf⟩ := h.struct Tryd.underlying25
  rw [show Tryd.prog.cellsOf 25 = 5 by kernel_rfl] at hsz
  obtain ⟨l⟩ := cs
  obtain ⟨x0, x1, x2, x3, x4, rfl⟩ := five_of (l := l) (by simpa using hsz)
  have q0 : Can Tryd.prog w 22 (([x0, x1, x2, x3, x4].drop 0).take (Tryd.prog.cellsOf 22)) := hf 0 _ rfl
  have q1 : Can Tryd.prog w 22 (([x0, x1, x2, x3, x4].drop 1).take (Tryd.prog.cellsOf 22)) := hf 1 _ rfl
  have q2 : Can Tryd.prog w 3 (([x0, x1, x2, x3, x4].drop 2).take (Tryd.prog.cellsOf 3)) := hf 2 _ rfl
  have q3 : Can Tryd.prog w 23 (([x0, x1, x2, x3, x4].drop 3).take (Tryd.prog.cellsOf 23)) := hf 3 _ rfl
  have q4 : Can Tryd.prog w 23 (([x0, x1, x2, x3, x4].drop 4).take (Tryd.prog.cellsOf 23)) := hf 4 _ rfl
  rw [show Tryd.prog.cellsOf 22 = 1 by kernel_rfl] at q0 q1
  rw [show Tryd.prog.cellsOf 3 = 1 by kernel_rfl] at q2
  rw [show Tryd.prog.cellsOf 23 = 1 by kernel_rfl] at q3 q4
  obtain ⟨a, h0, w0⟩ := q0.int Tryd.underlying22
  obtain ⟨b, h1, w1⟩ := q1.int Tryd.underlying22
  obtain ⟨c, h2, _⟩ := q2.int Tryd.underlying3
  obtain ⟨ha, hl, hc, hs, h3, hB3⟩ := q3.bytes Tryd.underlying23 Tryd.underlying5 (by kernel_rfl)
  obtain ⟨sa, sl, sc, ss, h4, hB4⟩ := q4.bytes Tryd.underlying23 Tryd.underlying5 (by kernel_rfl)
  have ba : 0 ≤ a ∧ a < 18446744073709551616 := by simp [Lit.wf, IntKind.min, IntKind.max, IntKind.bits, IntKind.signed] at w0; omega
  have bb : 0 ≤ b ∧ b < 18446744073709551616 := by simp [Lit.wf, IntKind.min, IntKind.max, IntKind.bits, IntKind.signed] at w1; omega
  obtain ⟨m, rfl⟩ : ∃ m : Nat, a = (m : Int) := ⟨a.toNat, by omega⟩
  obtain ⟨n, rfl⟩ : ∃ n : Nat, b = (n : Int) := ⟨b.toNat, by omega⟩
  simp at h0 h1 h2 h3 h4
  subst h0 h1 h2 h3 h4
  exact ⟨m, n, c, ha, hl, hc, hs, sa, sl, sc, ss, rfl, by omega, by omega, hB3, hB4⟩
end Go.Proofs.YtdglhonogopciaaDoor
