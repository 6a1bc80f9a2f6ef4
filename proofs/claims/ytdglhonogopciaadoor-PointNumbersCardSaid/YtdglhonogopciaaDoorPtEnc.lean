/- The contract of point.Encode. -/
import Derived.Test.YtdglhonogopciaaDoorPtRoom
import Derived.Test.YtdglhonogopciaaDoorShaOf
import Derived.Test.YtdglhonogopciaaDoorHeldB
import Derived.Deep.DeepCutAuto
namespace Go.Proofs.YtdglhonogopciaaDoor
open Go.RowKit

/-- a block's cells -/
def CellsAt (w : World) (b : Nat) (cs : List Value) : Prop := b < w.heap.size ∧ ∀ i v, cs[i]? = some v → w.cell? ⟨b, i, none⟩ = some v
theorem CellsAt.below {w w' : World} {b : Nat} {cs : List Value} (h : CellsAt w b cs) (hb : Below w.heap.size w w') : CellsAt w' b cs :=
  ⟨Nat.lt_of_lt_of_le h.1 hb.size, fun i v hv => (hb.cell (p := ⟨b, i, none⟩) h.1).trans (h.2 i v hv)⟩
theorem CellsAt.new (w : World) (cs : List Value) (t : TypeId) : CellsAt (w.alloc (.cells cs.toArray t)) w.heap.size cs :=
  ⟨by simp, fun i v hv => by rw [cell_new]; simpa using hv⟩
def plC (s p g : Int) : List Value := [.int .i64 s, .int .i64 p, .int .i64 g]
def mkC (m : Mk) (ah : Option Addr) (lh ch : Nat) (al : Option Addr) (lt ct : Nat) : List Value := [.int .u64 (m.gen : Int), .int .u64 (m.seq : Int), .int .i64 m.seg, .slice ah lh ch, .slice al lt ct]

set_option maxRecDepth 100000 in
theorem penc_noplan (s p g : Int) (m : Mk) (ah al : Option Addr) (lh ch lt ct : Nat) (w : World) (h : ¬ isPlan s p g) :
    Calls Tryd.prog 18 #[.agg #[.int .i64 s, .int .i64 p, .int .i64 g], .agg #[.int .u64 (m.gen : Int), .int .u64 (m.seq : Int), .int .i64 m.seg, .slice ah lh ch, .slice al lt ct]] w fun e w' => e = .returned (.tuple #[.slice none 0 0, .int .i64 1]) ∧ Below w.heap.size w w' := by
  obtain ⟨G, Q, SG, H, T⟩ := m
  simp only at *
  have hPl := (CellsAt.new w (plC s p g) 31).below ((Below.refl _ _).alloc (Nat.le_refl _) (.cells (mkC ⟨G, Q, SG, H, T⟩ ah lh ch al lt ct).toArray 25))
  have hMk := CellsAt.new (w.alloc (.cells (plC s p g).toArray 31)) (mkC ⟨G, Q, SG, H, T⟩ ah lh ch al lt ct) 25
  have hE := ((Ext.refl w).alloc (.cells (plC s p g).toArray 31)).alloc (.cells (mkC ⟨G, Q, SG, H, T⟩ ah lh ch al lt ct).toArray 25)
  rw [World.size_alloc] at hMk
  have HR := Lib.hid (right_no s p g ((w.alloc (.cells (plC s p g).toArray 31)).alloc (.cells (mkC ⟨G, Q, SG, H, T⟩ ah lh ch al lt ct).toArray 25)) h)
  clear h hPl hMk
  go_enter Tryd.func18, Tryd.ntmps18
  go_wp2_with fail
  refine HR.out.mono ?_
  rintro e w2 ⟨rfl, hb⟩
  replace hE := hE.step hb
  go_wp2_with fail
  go_ret2
  exact ⟨rfl, hE.1⟩

set_option maxRecDepth 100000 in
theorem penc_noright (s p g : Int) (m : Mk) (ah al : Option Addr) (lh ch lt ct : Nat) (w : World) (h : isPlan s p g) (hh : m.head.length = lh) (hr : ¬ m.right g) :
    Calls Tryd.prog 18 #[.agg #[.int .i64 s, .int .i64 p, .int .i64 g], .agg #[.int .u64 (m.gen : Int), .int .u64 (m.seq : Int), .int .i64 m.seg, .slice ah lh ch, .slice al lt ct]] w fun e w' => e = .returned (.tuple #[.slice none 0 0, .int .i64 12]) ∧ Below w.heap.size w w' := by
  obtain ⟨G, Q, SG, H, T⟩ := m
  simp only at *
  have hPl := (CellsAt.new w (plC s p g) 31).below ((Below.refl _ _).alloc (Nat.le_refl _) (.cells (mkC ⟨G, Q, SG, H, T⟩ ah lh ch al lt ct).toArray 25))
  have hMk := CellsAt.new (w.alloc (.cells (plC s p g).toArray 31)) (mkC ⟨G, Q, SG, H, T⟩ ah lh ch al lt ct) 25
  have hE := ((Ext.refl w).alloc (.cells (plC s p g).toArray 31)).alloc (.cells (mkC ⟨G, Q, SG, H, T⟩ ah lh ch al lt ct).toArray 25)
  rw [World.size_alloc] at hMk
  have HR := Lib.hid (right_ok s p g ((w.alloc (.cells (plC s p g).toArray 31)).alloc (.cells (mkC ⟨G, Q, SG, H, T⟩ ah lh ch al lt ct).toArray 25)) h)
  have HPL := Lib.hid h
  obtain ⟨B, hB⟩ : ∃ B, B = w.heap.size := ⟨_, rfl⟩
  have HB0 := Lib.hid hB
  clear h
  go_enter Tryd.func18, Tryd.ntmps18
  go_wp2_with fail
  refine HR.out.mono ?_
  rintro e w1 ⟨rfl, hb⟩
  replace hE := hE.step hb
  replace hPl := hPl.below hb
  replace hMk := hMk.below hb
  rw [← hB] at hPl hMk hE ⊢
  clear hb HR hB
  have c := hPl.2
  have p0 := c 0 _ rfl
  have p1 := c 1 _ rfl
  have p2 := c 2 _ rfl
  clear c
  have c := hMk.2
  have m0 := c 0 _ rfl
  have m1 := c 1 _ rfl
  have m2 := c 2 _ rfl
  have m3 := c 3 _ rfl
  have m4 := c 4 _ rfl
  clear c
  have HQ := Lib.hid (ptright_any s p g ⟨G, Q, SG, H, T⟩ ah al lh ch lt ct w1 hh)
  rw [decide_eq_false hr] at HQ
  clear hr hh
  go_wp2_with fail
  refine HQ.out.mono ?_
  rintro e w2 ⟨rfl, hb⟩
  replace hE := hE.step hb
  go_wp2_with fail
  go_ret2
  exact ⟨rfl, by rw [← HB0.out]; exact hE.1⟩

set_option maxRecDepth 100000 in
theorem penc_noroom (s p g : Int) (m : Mk) (ah al : Option Addr) (lh ch lt ct : Nat) (w : World) (h : isPlan s p g) (hH : Bs w ah lh ch m.head) (hT : Bs w al lt ct m.state) (hr : m.right g) (hl : 128 * p - 94 < (lt : Int)) :
    Calls Tryd.prog 18 #[.agg #[.int .i64 s, .int .i64 p, .int .i64 g], .agg #[.int .u64 (m.gen : Int), .int .u64 (m.seq : Int), .int .i64 m.seg, .slice ah lh ch, .slice al lt ct]] w fun e w' => e = .returned (.tuple #[.slice none 0 0, .int .i64 15]) ∧ Below w.heap.size w w' := by
  obtain ⟨G, Q, SG, H, T⟩ := m
  simp only at *
  have hPl := (CellsAt.new w (plC s p g) 31).below ((Below.refl _ _).alloc (Nat.le_refl _) (.cells (mkC ⟨G, Q, SG, H, T⟩ ah lh ch al lt ct).toArray 25))
  have hMk := CellsAt.new (w.alloc (.cells (plC s p g).toArray 31)) (mkC ⟨G, Q, SG, H, T⟩ ah lh ch al lt ct) 25
  have hE := ((Ext.refl w).alloc (.cells (plC s p g).toArray 31)).alloc (.cells (mkC ⟨G, Q, SG, H, T⟩ ah lh ch al lt ct).toArray 25)
  rw [World.size_alloc] at hMk
  have HR := Lib.hid (right_ok s p g ((w.alloc (.cells (plC s p g).toArray 31)).alloc (.cells (mkC ⟨G, Q, SG, H, T⟩ ah lh ch al lt ct).toArray 25)) h)
  have HPL := Lib.hid h
  obtain ⟨B, hB⟩ : ∃ B, B = w.heap.size := ⟨_, rfl⟩
  have HB0 := Lib.hid hB
  clear h
  go_enter Tryd.func18, Tryd.ntmps18
  go_wp2_with fail
  refine HR.out.mono ?_
  rintro e w1 ⟨rfl, hb⟩
  replace hE := hE.step hb
  replace hPl := hPl.below hb
  replace hMk := hMk.below hb
  rw [← hB] at hPl hMk hE ⊢
  replace hH := ((hH.alloc _).alloc _).below hb
  replace hT := ((hT.alloc _).alloc _).below hb
  clear hb HR hB
  have c := hPl.2
  have p0 := c 0 _ rfl
  have p1 := c 1 _ rfl
  have p2 := c 2 _ rfl
  clear c
  have c := hMk.2
  have m0 := c 0 _ rfl
  have m1 := c 1 _ rfl
  have m2 := c 2 _ rfl
  have m3 := c 3 _ rfl
  have m4 := c 4 _ rfl
  clear c
  have hh := hH.1
  have HQ := Lib.hid (ptright_any s p g ⟨G, Q, SG, H, T⟩ ah al lh ch lt ct w1 hh)
  rw [decide_eq_true hr] at HQ
  go_wp2_with fail
  refine HQ.out.mono ?_
  rintro e w2 ⟨rfl, hb⟩
  replace hE := hE.step hb
  replace hPl := hPl.below hb
  replace hMk := hMk.below hb
  replace hH := hH.below hb
  replace hT := hT.below hb
  clear hb HQ p0 p1 p2 m0 m1 m2 m3 m4
  clear hr hh
  go_upto_region 5 with fail
  obtain ⟨wd, hwd⟩ : ∃ wd, wd = w2.drew := ⟨_, rfl⟩
  have hb : Below w2.heap.size w2 wd := by rw [hwd]; exact (Below.refl _ _).drew
  have hPl := hPl.below hb
  have hMk := hMk.below hb
  have hH := hH.below hb
  have hT := hT.below hb
  have hE := hE.step hb
  clear hb
  refine held_start (by kernel_rfl) (fun hHeld => ?_)
  rw [← hwd] at hHeld ⊢
  clear hwd
  refine held_take (i := 0) (v := ?_) 18 rfl (by kernel_rfl) (by kernel_rfl) (by kernel_rfl) (fun _ _ _ h => h) rfl (by assumption) (Or.inl ⟨by rfl, ?_⟩) ?_
  rotate_left
  · intro w hSw; go_simp; (try with_reducible rfl)
  simp only [List.set_cons_zero, List.set_cons_succ]
  refine held_take (i := 1) (v := ?_) 19 rfl (by kernel_rfl) (by kernel_rfl) (by kernel_rfl) (fun _ _ _ h => h) rfl (by assumption) (Or.inl ⟨by rfl, ?_⟩) ?_
  rotate_left
  · intro w hSw; have c := (hMk.below hSw).2; have c4 := c 4 _ rfl; clear c; go_simp; (try with_reducible rfl)
  simp only [List.set_cons_zero, List.set_cons_succ]
  refine held_take (i := 2) (v := ?_) 20 rfl (by kernel_rfl) (by kernel_rfl) (by kernel_rfl) (fun _ _ _ h => h) rfl (by assumption) (Or.inl ⟨by rfl, ?_⟩) ?_
  rotate_left
  · intro w hSw; go_simp; (try with_reducible rfl)
  simp only [List.set_cons_zero, List.set_cons_succ]
  refine held_take (i := 3) (v := ?_) 21 rfl (by kernel_rfl) (by kernel_rfl) (by kernel_rfl) (fun _ _ _ h => h) rfl (by assumption) (Or.inl ⟨by rfl, ?_⟩) ?_
  rotate_left
  · intro w hSw; have c := (hPl.below hSw).2; have c0 := c 0 _ rfl; have c1 := c 1 _ rfl; have c2 := c 2 _ rfl; clear c; go_simp; (try with_reducible rfl)
  simp only [List.set_cons_zero, List.set_cons_succ]
  refine wpAnyH_ready (rs := [4]) (by kernel_rfl) (by simp) ?_
  refine (AllReadyH.cons rfl (fun K hK => ?_) AllReadyH.nil)
  go_simp
  refine (room_ok s p g _ HPL.out).mono ?_
  rintro e w1x ⟨rfl, hb⟩
  have hbt := HB.trans hHeld hb
  have hPl := hPl.below hbt
  have hMk := hMk.below hbt
  have hH := hH.below hbt
  have hT := hT.below hbt
  have hE := hE.step hbt
  go_wp2_with fail
  refine hK.out _ _ hbt (fun _ => held_next hbt (fun hHeld2 => ?_))
  clear hK hHeld hb hbt K
  have hHeld := hHeld2
  clear hHeld2
  refine held_take (i := 5) (v := ?_) 23 rfl (by kernel_rfl) (by kernel_rfl) (by kernel_rfl) (fun _ _ _ h => h) rfl (by assumption) (Or.inl ⟨by rfl, ?_⟩) ?_
  rotate_left
  · intro w hSw; go_simp; (try with_reducible rfl)
  simp only [List.set_cons_zero, List.set_cons_succ]
  refine held_take (i := 6) (v := ?_) 17 rfl (by kernel_rfl) (by kernel_rfl) (by kernel_rfl) (fun _ _ _ h => h) rfl (by assumption) (Or.inl ⟨by rfl, ?_⟩) ?_
  rotate_left
  · intro w hSw; go_simp; (try with_reducible rfl)
  simp only [List.set_cons_zero, List.set_cons_succ]
  refine wpAnyH_done (by kernel_rfl) ?_ _
  go_wp2_with fail
  go_ret2
  exact ⟨rfl, by rw [← HB0.out]; exact hE.1⟩

set_option maxRecDepth 100000 in
set_option maxHeartbeats 1000000 in
theorem penc_ok (s p g : Int) (m : Mk) (ah al : Option Addr) (lh ch lt ct : Nat) (w : World) (h : isPlan s p g) (hH : Bs w ah lh ch m.head) (hT : Bs w al lt ct m.state) (hr : m.right g) (hl : (lt : Int) ≤ 128 * p - 94) :
    Calls Tryd.prog 18 #[.agg #[.int .i64 s, .int .i64 p, .int .i64 g], .agg #[.int .u64 (m.gen : Int), .int .u64 (m.seq : Int), .int .i64 m.seg, .slice ah lh ch, .slice al lt ct]] w fun e w' => ∃ v, e = .returned (.tuple #[v, .int .i64 0]) ∧ Own w' w.heap.size v (ptBytes p.toNat m) ∧ Below w.heap.size w w' := by
  obtain ⟨G, Q, SG, H, T⟩ := m
  simp only at *
  have hPl := (CellsAt.new w (plC s p g) 31).below ((Below.refl _ _).alloc (Nat.le_refl _) (.cells (mkC ⟨G, Q, SG, H, T⟩ ah lh ch al lt ct).toArray 25))
  have hMk := CellsAt.new (w.alloc (.cells (plC s p g).toArray 31)) (mkC ⟨G, Q, SG, H, T⟩ ah lh ch al lt ct) 25
  have hE := ((Ext.refl w).alloc (.cells (plC s p g).toArray 31)).alloc (.cells (mkC ⟨G, Q, SG, H, T⟩ ah lh ch al lt ct).toArray 25)
  rw [World.size_alloc] at hMk
  have HR := Lib.hid (right_ok s p g ((w.alloc (.cells (plC s p g).toArray 31)).alloc (.cells (mkC ⟨G, Q, SG, H, T⟩ ah lh ch al lt ct).toArray 25)) h)
  have HPL := Lib.hid h
  obtain ⟨B, hB⟩ : ∃ B, B = w.heap.size := ⟨_, rfl⟩
  have HB0 := Lib.hid hB
  clear h
  go_enter Tryd.func18, Tryd.ntmps18
  go_wp2_with fail
  refine HR.out.mono ?_
  rintro e w1 ⟨rfl, hb⟩
  replace hE := hE.step hb
  replace hPl := hPl.below hb
  replace hMk := hMk.below hb
  rw [← hB] at hPl hMk hE ⊢
  replace hH := ((hH.alloc _).alloc _).below hb
  replace hT := ((hT.alloc _).alloc _).below hb
  clear hb HR hB
  have c := hPl.2
  have p0 := c 0 _ rfl
  have p1 := c 1 _ rfl
  have p2 := c 2 _ rfl
  clear c
  have c := hMk.2
  have m0 := c 0 _ rfl
  have m1 := c 1 _ rfl
  have m2 := c 2 _ rfl
  have m3 := c 3 _ rfl
  have m4 := c 4 _ rfl
  clear c
  have hh := hH.1
  have HQ := Lib.hid (ptright_any s p g ⟨G, Q, SG, H, T⟩ ah al lh ch lt ct w1 hh)
  rw [decide_eq_true hr] at HQ
  go_wp2_with fail
  refine HQ.out.mono ?_
  rintro e w2 ⟨rfl, hb⟩
  replace hE := hE.step hb
  replace hPl := hPl.below hb
  replace hMk := hMk.below hb
  replace hH := hH.below hb
  replace hT := hT.below hb
  clear hb HQ p0 p1 p2 m0 m1 m2 m3 m4
  have hpb := HPL.out.bd
  obtain ⟨r1, r2, r3, r4, r5, r6⟩ := hr
  simp only at r1 r2 r3 r4 r5 r6
  obtain ⟨SN, rfl⟩ : ∃ SN : Nat, SG = (SN : Int) := ⟨SG.toNat, by omega⟩
  have hlh : lh = 32 := by rw [← hh]; exact r6
  subst hlh
  have hlt := hT.1
  have HMT : MT = 1099511627776 := rfl
  have e5 : ¬ (128 * p - 94 < (lt : Int)) := by omega
  have hSn : SN ≤ 4096 := by omega
  obtain ⟨k, hk⟩ : ∃ k : Nat, 128 * p - 94 - (lt : Int) = (k : Int) := ⟨(128 * p - 94 - (lt : Int)).toNat, by omega⟩
  have hkn : k = 128 * p.toNat - 94 - T.length := by omega
  have hkb : k ≤ 200000 := by omega
  have hltb : lt ≤ 200000 := by omega
  have i1 : IntKind.i64.wrap (128 * p - 94 - (lt : Int)) = (k : Int) := by rw [IntWalk.i64_in _ (by omega)]; exact hk
  have HK := Lib.hid hk
  have HX := Lib.hid (show ptBytes p.toNat ⟨G, Q, (SN : Int), H, T⟩ = ptHead G Q SN H T.length ++ (be (crcMore 0 (ptHead G Q SN H T.length) / 65536) 2 ++ (be (crcMore 0 (ptHead G Q SN H T.length)) 2 ++ (sha T ++ (T ++ List.replicate k 0)))) by rw [hkn]; rfl)
  have HLN := Lib.hid (ptHead_length G Q SN H T.length r6)
  have HLT := Lib.hid hlt
  have HR6 := Lib.hid r6
  clear r1 r2 r3 r4 r5 r6 hh HMT hkn hk hlt
  go_upto_region 5 with fail
  obtain ⟨wd, hwd⟩ : ∃ wd, wd = w2.drew := ⟨_, rfl⟩
  have hb : Below w2.heap.size w2 wd := by rw [hwd]; exact (Below.refl _ _).drew
  have hPl := hPl.below hb
  have hMk := hMk.below hb
  have hH := hH.below hb
  have hT := hT.below hb
  have hE := hE.step hb
  clear hb
  refine held_start (by kernel_rfl) (fun hHeld => ?_)
  rw [← hwd] at hHeld ⊢
  clear hwd
  refine held_take (i := 0) (v := ?_) 18 rfl (by kernel_rfl) (by kernel_rfl) (by kernel_rfl) (fun _ _ _ h => h) rfl (by assumption) (Or.inl ⟨by rfl, ?_⟩) ?_
  rotate_left
  · intro w hSw; go_simp; (try with_reducible rfl)
  simp only [List.set_cons_zero, List.set_cons_succ]
  refine held_take (i := 1) (v := ?_) 19 rfl (by kernel_rfl) (by kernel_rfl) (by kernel_rfl) (fun _ _ _ h => h) rfl (by assumption) (Or.inl ⟨by rfl, ?_⟩) ?_
  rotate_left
  · intro w hSw; have c := (hMk.below hSw).2; have c4 := c 4 _ rfl; clear c; go_simp; (try with_reducible rfl)
  simp only [List.set_cons_zero, List.set_cons_succ]
  refine held_take (i := 2) (v := ?_) 20 rfl (by kernel_rfl) (by kernel_rfl) (by kernel_rfl) (fun _ _ _ h => h) rfl (by assumption) (Or.inl ⟨by rfl, ?_⟩) ?_
  rotate_left
  · intro w hSw; go_simp; (try with_reducible rfl)
  simp only [List.set_cons_zero, List.set_cons_succ]
  refine held_take (i := 3) (v := ?_) 21 rfl (by kernel_rfl) (by kernel_rfl) (by kernel_rfl) (fun _ _ _ h => h) rfl (by assumption) (Or.inl ⟨by rfl, ?_⟩) ?_
  rotate_left
  · intro w hSw; have c := (hPl.below hSw).2; have c0 := c 0 _ rfl; have c1 := c 1 _ rfl; have c2 := c 2 _ rfl; clear c; go_simp; (try with_reducible rfl)
  simp only [List.set_cons_zero, List.set_cons_succ]
  refine wpAnyH_ready (rs := [4]) (by kernel_rfl) (by simp) ?_
  refine (AllReadyH.cons rfl (fun K hK => ?_) AllReadyH.nil)
  go_simp
  refine (room_ok s p g _ HPL.out).mono ?_
  rintro e w1x ⟨rfl, hb⟩
  have hbt := HB.trans hHeld hb
  have hPl := hPl.below hbt
  have hMk := hMk.below hbt
  have hH := hH.below hbt
  have hT := hT.below hbt
  have hE := hE.step hbt
  go_wp2_with fail
  refine hK.out _ _ hbt (fun _ => held_next hbt (fun hHeld2 => ?_))
  clear hK hHeld hb hbt K
  have hHeld := hHeld2
  clear hHeld2
  refine held_take (i := 5) (v := ?_) 23 rfl (by kernel_rfl) (by kernel_rfl) (by kernel_rfl) (fun _ _ _ h => h) rfl (by assumption) (Or.inl ⟨by rfl, ?_⟩) ?_
  rotate_left
  · intro w hSw; go_simp; (try with_reducible rfl)
  simp only [List.set_cons_zero, List.set_cons_succ]
  refine held_take (i := 6) (v := ?_) 17 rfl (by kernel_rfl) (by kernel_rfl) (by kernel_rfl) (fun _ _ _ h => h) rfl (by assumption) (Or.inl ⟨by rfl, ?_⟩) ?_
  rotate_left
  · intro w hSw; go_simp; (try with_reducible rfl)
  simp only [List.set_cons_zero, List.set_cons_succ]
  refine wpAnyH_done (by kernel_rfl) ?_ _
  have c := hPl.2
  have q0 := c 0 _ rfl
  have q1 := c 1 _ rfl
  have q2 := c 2 _ rfl
  clear c
  have c := hMk.2
  have n0 := c 0 _ rfl
  have n1 := c 1 _ rfl
  have n2 := c 2 _ rfl
  have n3 := c 3 _ rfl
  have q4 := c 4 _ rfl
  clear c
  have hlP := hPl.1
  have hlM := hMk.1
  clear hPl hMk hHeld
  go_wp2_with fail
  refine (wnew_any _).mono ?_
  rintro e w3 ⟨rfl, hW1, hb1⟩
  have hI : WI w1x w1x.heap.size w1x.heap.size w3 [] := ⟨(Ext.refl w1x).step hb1, none, hW1⟩
  obtain ⟨q, hq⟩ : ∃ q, q = w1x.heap.size := ⟨_, rfl⟩
  rw [← hq] at hI hlP hlM ⊢
  have HQ := Lib.hid hq
  clear hW1 hb1 hq
  have d0 := hI.cell hlM n0
  go_wp2_with fail
  refine (wlong_ok G hI (by simp; unfold big; decide)).mono ?_
  rintro e w4 ⟨rfl, hI⟩
  have d1 := hI.cell hlM n1
  clear d0
  go_wp2_with fail
  refine (wlong_ok Q hI (by simp [be_length]; unfold big; decide)).mono ?_
  rintro e w5 ⟨rfl, hI⟩
  have d2 := hI.cell hlM n2
  clear d1
  go_wp2_with fail
  refine (wshort_ok SN hI (by omega) (by simp [be_length]; unfold big; decide)).mono ?_
  rintro e w6 ⟨rfl, hI⟩
  have d3 := hI.cell hlM n3
  have hHq := hI.1.bs HQ.out.symm hH
  clear d2
  go_wp2_with fail
  refine (wraw_ok hI hHq (by simp [be_length]; unfold big; decide)).mono ?_
  rintro e w7 ⟨rfl, hI⟩
  have d4 := hI.cell hlM q4
  clear d3 hHq
  go_wp2_with fail
  refine (wlong_ok lt hI (by simp [be_length, HR6.out]; unfold big; decide)).mono ?_
  rintro e w8 ⟨rfl, hI⟩
  have e1 : [] ++ be G 8 ++ be Q 8 ++ be SN 2 ++ H ++ be lt 8 = ptHead G Q SN H T.length := by simp [ptHead, HLT.out]
  rw [e1] at hI
  clear e1 d4
  have hln := HLN.out
  generalize ptHead G Q SN H T.length = X at *
  go_wp2_with fail
  refine (wdone_ok hI (by rw [hln]; unfold big; decide)).mono ?_
  rintro e w9 ⟨a8, c8, rfl, _, hB8, hI⟩
  rw [hln] at hB8
  go_wp2_with fail
  refine (sum_any _ _ _ _ _ hB8).mono ?_
  rintro e w10 ⟨rfl, rfl⟩
  have hcl := crcMore_lt 0 X
  generalize crcMore 0 X = c at *
  clear hB8
  have hS1 := wshort_ok (c / 65536) hI (by omega) (by rw [hln]; unfold big; decide)
  rw [show ((c / 65536 : Nat) : Int) = (c : Int) / 65536 by omega] at hS1
  go_wp2_with fail
  refine hS1.mono ?_
  rintro e w11 ⟨rfl, hI⟩
  clear hS1
  go_wp2_with fail
  refine (wshort_ok c hI (by omega) (by rw [List.length_append, hln, be_length]; unfold big; decide)).mono ?_
  rintro e w12 ⟨rfl, hI⟩
  have hl12 : (X ++ be (c / 65536) 2 ++ be c 2).length = 62 := by rw [List.length_append, List.length_append, hln, be_length, be_length]
  have HY := Lib.hid (show (X ++ be (c / 65536) 2 ++ be c 2) ++ sha T ++ T ++ List.replicate k 0 = X ++ (be (c / 65536) 2 ++ (be c 2 ++ (sha T ++ (T ++ List.replicate k 0)))) by simp only [List.append_assoc])
  generalize X ++ be (c / 65536) 2 ++ be c 2 = Y at *
  have d4 := hI.cell hlM q4
  have hTq := hI.1.bs HQ.out.symm hT
  go_wp2_with fail
  refine (shasum_any _ _ _ _ _ hTq (by omega)).mono ?_
  rintro e w13 ⟨v13, rfl, ho, hb⟩
  obtain ⟨a13, c13, rfl, hS13⟩ := ho.bsn (n := 32) (sha_length _)
  have hI := hI.below hb
  have hsl := sha_length T
  generalize sha T = ST at *
  clear hb ho d4 hTq
  go_wp2_with fail
  refine (wraw_ok hI hS13 (by rw [hl12]; unfold big; decide)).mono ?_
  rintro e w14 ⟨rfl, hI⟩
  have d4 := hI.cell hlM q4
  have hTq := hI.1.bs HQ.out.symm hT
  have hl14 : (Y ++ ST).length = 94 := by rw [List.length_append, hl12, hsl]
  clear hS13
  go_wp2_with fail
  refine (wraw_ok hI hTq (by rw [hl14]; unfold big; omega)).mono ?_
  rintro e w15 ⟨rfl, hI⟩
  have d4 := hI.cell hlM q4
  have d0 := hI.cell hlP q0
  have d1 := hI.cell hlP q1
  have d2 := hI.cell hlP q2
  have hl15 : (Y ++ ST ++ T).length = 94 + lt := by rw [List.length_append, hl14, HLT.out]
  have hI := hI.drew
  clear hTq
  go_upto_region 18 with fail
  refine heldB_start (fun _ => true) (fun w' => w'.cell? ⟨B, 0, none⟩ = some (.int .i64 s) ∧ w'.cell? ⟨B, 1, none⟩ = some (.int .i64 p) ∧ w'.cell? ⟨B, 2, none⟩ = some (.int .i64 g) ∧ w'.cell? ⟨B + 1, 4, none⟩ = some (.slice al lt ct)) (by kernel_rfl) ⟨d0, d1, d2, d4⟩ (fun hHeld => ?_)
  refine heldB_take (i := 0) (v := ?_) 68 rfl (by kernel_rfl) (by kernel_rfl) (by kernel_rfl) (by kernel_rfl) (fun _ _ _ h => h) rfl (by assumption) (Or.inl ⟨by rfl, ?_⟩) ?_
  rotate_left
  · intro w hSw; go_simp; (try with_reducible rfl)
  simp only [List.set_cons_zero, List.set_cons_succ]
  refine heldB_take (i := 3) (v := ?_) 71 rfl (by kernel_rfl) (by kernel_rfl) (by kernel_rfl) (by kernel_rfl) (fun _ _ _ h => h) rfl (by assumption) (Or.inl ⟨by rfl, ?_⟩) ?_
  rotate_left
  · intro w hSw; go_simp; (try with_reducible rfl)
  simp only [List.set_cons_zero, List.set_cons_succ]
  refine heldB_take (i := 1) (v := ?_) 69 rfl (by kernel_rfl) (by kernel_rfl) (by kernel_rfl) (by kernel_rfl) (fun _ _ _ h => h) rfl (by assumption) (Or.inl ⟨by rfl, ?_⟩) ?_
  rotate_left
  · intro w hSw; obtain ⟨x0, x1, x2, x4⟩ := hSw; go_simp; (try with_reducible rfl)
  simp only [List.set_cons_zero, List.set_cons_succ]
  refine heldB_take (i := 4) (v := ?_) 72 rfl (by kernel_rfl) (by kernel_rfl) (by kernel_rfl) (by kernel_rfl) (fun _ _ _ h => h) rfl (by assumption) (Or.inl ⟨by rfl, ?_⟩) ?_
  rotate_left
  · intro w hSw; obtain ⟨x0, x1, x2, x4⟩ := hSw; go_simp; (try with_reducible rfl)
  simp only [List.set_cons_zero, List.set_cons_succ]
  refine heldB_take (i := 5) (v := ?_) 73 rfl (by kernel_rfl) (by kernel_rfl) (by kernel_rfl) (by kernel_rfl) (fun _ _ _ h => h) rfl (by assumption) (Or.inl ⟨by rfl, ?_⟩) ?_
  rotate_left
  · intro w hSw; go_simp; (try with_reducible rfl)
  simp only [List.set_cons_zero, List.set_cons_succ]
  refine heldB_one 2 (by kernel_rfl) rfl (fun K hK => ?_)
  go_simp
  refine (room_ok s p g _ HPL.out).mono ?_
  rintro e w19 ⟨rfl, hb⟩
  have hI := hI.below hb
  clear hHeld
  have hHeld : (fun w' => w'.cell? ⟨B, 0, none⟩ = some (.int .i64 s) ∧ w'.cell? ⟨B, 1, none⟩ = some (.int .i64 p) ∧ w'.cell? ⟨B, 2, none⟩ = some (.int .i64 g) ∧ w'.cell? ⟨B + 1, 4, none⟩ = some (.slice al lt ct)) w19 := ⟨hI.cell hlP q0, hI.cell hlP q1, hI.cell hlP q2, hI.cell hlM q4⟩
  go_wp2_with fail
  refine hK.out _ _ (fun _ => hHeld) ?_
  clear hK K hb
  refine heldB_take (i := 6) (v := ?_) 74 rfl (by kernel_rfl) (by kernel_rfl) (by kernel_rfl) (by kernel_rfl) (fun _ _ _ h => h) rfl (by assumption) (Or.inl ⟨by rfl, ?_⟩) ?_
  rotate_left
  · intro w hSw; go_simp; (try with_reducible rfl)
  simp only [List.set_cons_zero, List.set_cons_succ]
  refine heldB_one 7 (by kernel_rfl) rfl (fun K hK => ?_)
  have hrun := run_make_bytes k (by omega) w19
  have hZ := (Row.zero w19 k (by unfold maxLen; omega)).bs
  rw [List.length_replicate] at hZ
  have hI := hI.below ((Below.refl _ _).alloc (Nat.le_refl _) (.cells (madeCells #[.int .u8 0] k) TB))
  go_simp
  generalize w19.alloc (.cells (madeCells #[.int .u8 0] k) TB) = w20 at *
  clear hHeld
  have hHeld : (fun w' => w'.cell? ⟨B, 0, none⟩ = some (.int .i64 s) ∧ w'.cell? ⟨B, 1, none⟩ = some (.int .i64 p) ∧ w'.cell? ⟨B, 2, none⟩ = some (.int .i64 g) ∧ w'.cell? ⟨B + 1, 4, none⟩ = some (.slice al lt ct)) w20 := ⟨hI.cell hlP q0, hI.cell hlP q1, hI.cell hlP q2, hI.cell hlM q4⟩
  refine hK.out _ _ (fun _ => hHeld) ?_
  clear hK K hrun
  refine heldB_one 8 (by kernel_rfl) rfl (fun K hK => ?_)
  go_simp
  refine (wraw_ok hI hZ (by rw [hl15]; unfold big; omega)).mono ?_
  rintro e w21 ⟨rfl, hI⟩
  clear hHeld
  have hHeld : (fun w' => w'.cell? ⟨B, 0, none⟩ = some (.int .i64 s) ∧ w'.cell? ⟨B, 1, none⟩ = some (.int .i64 p) ∧ w'.cell? ⟨B, 2, none⟩ = some (.int .i64 g) ∧ w'.cell? ⟨B + 1, 4, none⟩ = some (.slice al lt ct)) w21 := ⟨hI.cell hlP q0, hI.cell hlP q1, hI.cell hlP q2, hI.cell hlM q4⟩
  go_wp2_with fail
  refine hK.out _ _ (fun _ => hHeld) ?_
  clear hK K hHeld hZ
  refine heldB_done (by kernel_rfl) ?_ _
  rw [HY.out, ← HX.out] at hI
  obtain ⟨Z, hZe⟩ : ∃ Z, Z = ptBytes p.toNat ⟨G, Q, (SN : Int), H, T⟩ := ⟨_, rfl⟩
  have h1 := HLT.out
  have hl : Z.length ≤ 900000 := by rw [hZe, HX.out]; simp only [List.length_append, be_length, List.length_replicate]; omega
  rw [← hZe] at hI
  have HZ := Lib.hid hZe
  clear hZe
  go_wp2_with fail
  refine (wdone_ok hI (by unfold big; omega)).mono ?_
  rintro e w22 ⟨a22, c22, rfl, ho, _, hI2⟩
  go_wp2_with fail
  go_ret2
  have hE2 := hE.to (hI2.1.1.mono (by rw [HQ.out]; exact hE.2))
  exact ⟨.slice a22 Z.length c22, rfl, by rw [← HZ.out, ← HB0.out]; exact ho.base (hE.to (hI.1.1.mono (by rw [HQ.out]; exact hE.2))).2, by rw [← HB0.out]; exact hE2.1⟩
end Go.Proofs.YtdglhonogopciaaDoor
