/- The document's Room and Encode of chapter 20. -/
import Derived.Test.YtdglhonogopciaaDoorPtEnc
import Derived.Test.YtdglhonogopciaaDoorLayRef
import Derived.Test.YtdglhonogopciaaDoorRef4
import Derived.Test.YtdglhonogopciaaDoorShaRef
import Derived.Test.YtdglhonogopciaaDoorCrcRef
import Derived.Test.YtdglhonogopciaaDoorAZ
namespace Go.Proofs.YtdglhonogopciaaDoor
open Go.RowKit

theorem rroom_ok (s p g : Int) (w : World) (h : isPlan s p g) :
    Calls Tryd.prog 24 #[.agg #[.int .i64 s, .int .i64 p, .int .i64 g]] w fun e w' => e = .returned (.int .i64 (128 * p - 94)) ∧ Below w.heap.size w w' := by
  have hbd := h.bd
  have HR := Lib.hid (lrright_ok s p g (w.alloc (.cells #[.int .i64 s, .int .i64 p, .int .i64 g] 32)) h)
  clear h
  have i1 : IntKind.i64.wrap (128 * p) = 128 * p := IntWalk.i64_in _ (by omega)
  have i2 : IntKind.i64.wrap (128 * p - 94) = 128 * p - 94 := IntWalk.i64_in _ (by omega)
  have e1 : ¬ 128 * p < 94 := by omega
  go_enter Tryd.func24, Tryd.ntmps24
  go_wp2_with fail
  refine HR.out.mono ?_
  rintro e w1 ⟨rfl, hb⟩
  have hE := ((Ext.refl w).alloc (.cells #[.int .i64 s, .int .i64 p, .int .i64 g] 32)).step hb
  have c1 : w1.cell? ⟨w.heap.size, 1, none⟩ = some (.int .i64 p) := cell_new_below hb 1
  clear hb HR
  go_wp2_with fail
  go_ret
  exact ⟨rfl, hE.1⟩
theorem rroom_no (s p g : Int) (w : World) (h : ¬ isPlan s p g) :
    Calls Tryd.prog 24 #[.agg #[.int .i64 s, .int .i64 p, .int .i64 g]] w fun e w' => e = .returned (.int .i64 0) ∧ Below w.heap.size w w' := by
  have HR := Lib.hid (lrright_no s p g (w.alloc (.cells #[.int .i64 s, .int .i64 p, .int .i64 g] 32)) h)
  clear h
  go_enter Tryd.func24, Tryd.ntmps24
  go_wp2_with fail
  refine HR.out.mono ?_
  rintro e w1 ⟨rfl, hb⟩
  have hE := ((Ext.refl w).alloc (.cells #[.int .i64 s, .int .i64 p, .int .i64 g] 32)).step hb
  clear hb HR
  go_wp2_with fail
  go_ret
  exact ⟨rfl, hE.1⟩
theorem run_append_zeros0 (w : World) (ty : TypeId) (g cap n : Nat) (hn : n ≤ cap) :
    (Builtin.append_ #[23, 3] ty #[.slice (some ⟨g, 0, none⟩) n cap, .int .i64 0]).run Tryd.prog w = .ok (.slice (some ⟨g, 0, none⟩) n cap) w := by
  obtain ⟨i, hi, hz0, hz1, hz2⟩ := info_parts infoTB
  have hw : IntKind.i64.wrap 0 = 0 := by rw [IntKind.wrap_i64]; omega
  simp [hw, Builtin.append_, run_underlying Tryd.underlying23, run_underlying Tryd.underlying3, sizeOf, typeInfo, zeroValue, hi, hz0, hz2, asInt, asIntOf, hn, zeroCells_bytes, Value.cells, storeCells]
theorem wpList_append_zeros_any {w : World} {ops : Array Oper} {rest : List Oper} {o : Oper} {a : Act} {Q : Exit → Act → World → Prop} (hgd : o.guard = none) (s x : Operand)
    (ho : o.op = .call { callee := .builtin .append, args := #[s, x], argTypes := #[23, 3] })
    (B g cap : Nat) (xs : List UInt8) (n m : Nat) (hn : xs.length = n) (hs : a.eval s = .slice (some ⟨g, 0, none⟩) n cap) (hx : a.eval x = .int .i64 (m : Int)) (hr : Row w g cap xs) (hB : B ≤ g) (hBw : B ≤ w.heap.size) (hl : n + m ≤ 1000000)
    (h : ∀ v' w', Own w' B v' (xs ++ List.replicate m 0) → w.grownBy w' (some g) → wpList Tryd.prog ops Q rest (a.put o.dst v') w') : wpList Tryd.prog ops Q (o :: rest) a w := by
  by_cases hm : 0 < m
  · exact wpList_append_zeros hgd s x ho B g cap xs n m hn hs hx hr hB hBw hm hl h
  · obtain rfl : m = 0 := by omega
    refine Lib.wpList_append_run w hgd s x 23 3 ho _ _ hs hx _ w (run_append_zeros0 w o.type g cap n (by rw [← hn]; exact hr.len)) (h _ w ?_ ⟨rfl, rfl, rfl, Nat.le_refl _, fun _ _ _ => rfl⟩)
    have := Own.of_row hr hB
    rw [hn] at this
    simpa using this
theorem pt_be4 (c : Nat) : be c 4 = be (c / 65536) 2 ++ be c 2 := by
  simp only [be, Nat.div_div_eq_div_mul, List.cons_append, List.nil_append]
set_option maxRecDepth 100000 in
theorem rpenc_noplan (s p g : Int) (m : Mk) (ah al : Option Addr) (lh ch lt ct : Nat) (w : World) (h : ¬ isPlan s p g) :
    Calls Tryd.prog 11 #[.agg #[.int .i64 s, .int .i64 p, .int .i64 g], .agg #[.int .u64 (m.gen : Int), .int .u64 (m.seq : Int), .int .i64 m.seg, .slice ah lh ch, .slice al lt ct]] w fun e w' => e = .returned (.tuple #[.slice none 0 0, .int .i64 1]) ∧ Below w.heap.size w w' := by
  obtain ⟨G, Q, SG, H, T⟩ := m
  simp only at *
  have hPl := (CellsAt.new w (plC s p g) 32).below ((Below.refl _ _).alloc (Nat.le_refl _) (.cells (mkC ⟨G, Q, SG, H, T⟩ ah lh ch al lt ct).toArray 37))
  have hMk := CellsAt.new (w.alloc (.cells (plC s p g).toArray 32)) (mkC ⟨G, Q, SG, H, T⟩ ah lh ch al lt ct) 37
  have hE := ((Ext.refl w).alloc (.cells (plC s p g).toArray 32)).alloc (.cells (mkC ⟨G, Q, SG, H, T⟩ ah lh ch al lt ct).toArray 37)
  rw [World.size_alloc] at hMk
  have HR := Lib.hid (lrright_no s p g ((w.alloc (.cells (plC s p g).toArray 32)).alloc (.cells (mkC ⟨G, Q, SG, H, T⟩ ah lh ch al lt ct).toArray 37)) h)
  clear h hPl hMk
  go_enter Tryd.func11, Tryd.ntmps11
  go_wp2_with fail
  refine HR.out.mono ?_
  rintro e w2 ⟨rfl, hb⟩
  have hE := hE.step hb
  go_wp2_with fail
  go_ret2
  exact ⟨rfl, hE.1⟩
set_option maxHeartbeats 1000000 in
set_option maxRecDepth 100000 in
theorem rpenc_noright (s p g : Int) (m : Mk) (ah al : Option Addr) (lh ch lt ct : Nat) (w : World) (h : isPlan s p g) (hh : m.head.length = lh) (hr : ¬ m.right g) :
    Calls Tryd.prog 11 #[.agg #[.int .i64 s, .int .i64 p, .int .i64 g], .agg #[.int .u64 (m.gen : Int), .int .u64 (m.seq : Int), .int .i64 m.seg, .slice ah lh ch, .slice al lt ct]] w fun e w' => e = .returned (.tuple #[.slice none 0 0, .int .i64 12]) ∧ Below w.heap.size w w' := by
  obtain ⟨G, Q, SG, H, T⟩ := m
  simp only at *
  have hPl := (CellsAt.new w (plC s p g) 32).below ((Below.refl _ _).alloc (Nat.le_refl _) (.cells (mkC ⟨G, Q, SG, H, T⟩ ah lh ch al lt ct).toArray 37))
  have hMk := CellsAt.new (w.alloc (.cells (plC s p g).toArray 32)) (mkC ⟨G, Q, SG, H, T⟩ ah lh ch al lt ct) 37
  have hE := ((Ext.refl w).alloc (.cells (plC s p g).toArray 32)).alloc (.cells (mkC ⟨G, Q, SG, H, T⟩ ah lh ch al lt ct).toArray 37)
  rw [World.size_alloc] at hMk
  have HR := Lib.hid (lrright_ok s p g ((w.alloc (.cells (plC s p g).toArray 32)).alloc (.cells (mkC ⟨G, Q, SG, H, T⟩ ah lh ch al lt ct).toArray 37)) h)
  have HPL := Lib.hid h
  obtain ⟨B, hB⟩ : ∃ B, B = w.heap.size := ⟨_, rfl⟩
  have HB0 := Lib.hid hB
  clear h
  go_enter Tryd.func11, Tryd.ntmps11
  go_wp2_with fail
  refine HR.out.mono ?_
  rintro e w1 ⟨rfl, hb⟩
  replace hE := hE.step hb
  replace hPl := hPl.below hb
  replace hMk := hMk.below hb
  rw [← hB] at hPl hMk hE ⊢
  clear hb HR hB
  have c := hPl.2
  have p0 := c 0 _ rfl
  have p1 := c 1 _ rfl
  have p2 := c 2 _ rfl
  clear c
  have c := hMk.2
  have m0 := c 0 _ rfl
  have m1 := c 1 _ rfl
  have m2 := c 2 _ rfl
  have m3 := c 3 _ rfl
  have m4 := c 4 _ rfl
  clear c
  obtain ⟨r, hr0⟩ : ∃ r, r = !decide (Mk.right ⟨G, Q, SG, H, T⟩ g) := ⟨_, rfl⟩
  have HRR := Lib.hid hr0
  have HHL := Lib.hid hh
  clear hr0
  go_upto_region 3 with fail
  go_cut [11] (fun sx wx => sx = .bool r ∧ w1 = wx)
  case first =>
    clear hE HPL HB0 hr
    go_wp2_with fail
    all_goals go_meet
    all_goals refine ⟨?_, rfl⟩
    all_goals congr 1
    all_goals have hh := HHL.out
    all_goals rw [HRR.out, Bool.eq_iff_iff]
    all_goals simp only [Bool.not_eq_true', Mk.right, MT]
    all_goals (first | omega | (simp_all; done) | (simp_all; omega) | go_goals)
  case rest =>
  obtain ⟨rfl, rfl⟩ := hcut
  rw [decide_eq_false hr] at HRR
  obtain rfl : r = true := HRR.out
  go_wp2_with fail
  go_ret2
  exact ⟨rfl, by rw [← HB0.out]; exact hE.1⟩
set_option maxHeartbeats 1000000 in
set_option maxRecDepth 100000 in
theorem rpenc_noroom (s p g : Int) (m : Mk) (ah al : Option Addr) (lh ch lt ct : Nat) (w : World) (h : isPlan s p g) (hH : Bs w ah lh ch m.head) (hT : Bs w al lt ct m.state) (hr : m.right g) (hl : 128 * p - 94 < (lt : Int)) :
    Calls Tryd.prog 11 #[.agg #[.int .i64 s, .int .i64 p, .int .i64 g], .agg #[.int .u64 (m.gen : Int), .int .u64 (m.seq : Int), .int .i64 m.seg, .slice ah lh ch, .slice al lt ct]] w fun e w' => e = .returned (.tuple #[.slice none 0 0, .int .i64 15]) ∧ Below w.heap.size w w' := by
  have hh := hH.1
  obtain ⟨G, Q, SG, H, T⟩ := m
  simp only at *
  have hPl := (CellsAt.new w (plC s p g) 32).below ((Below.refl _ _).alloc (Nat.le_refl _) (.cells (mkC ⟨G, Q, SG, H, T⟩ ah lh ch al lt ct).toArray 37))
  have hMk := CellsAt.new (w.alloc (.cells (plC s p g).toArray 32)) (mkC ⟨G, Q, SG, H, T⟩ ah lh ch al lt ct) 37
  have hE := ((Ext.refl w).alloc (.cells (plC s p g).toArray 32)).alloc (.cells (mkC ⟨G, Q, SG, H, T⟩ ah lh ch al lt ct).toArray 37)
  rw [World.size_alloc] at hMk
  have HR := Lib.hid (lrright_ok s p g ((w.alloc (.cells (plC s p g).toArray 32)).alloc (.cells (mkC ⟨G, Q, SG, H, T⟩ ah lh ch al lt ct).toArray 37)) h)
  have HPL := Lib.hid h
  obtain ⟨B, hB⟩ : ∃ B, B = w.heap.size := ⟨_, rfl⟩
  have HB0 := Lib.hid hB
  clear h
  go_enter Tryd.func11, Tryd.ntmps11
  go_wp2_with fail
  refine HR.out.mono ?_
  rintro e w1 ⟨rfl, hb⟩
  replace hE := hE.step hb
  replace hPl := hPl.below hb
  replace hMk := hMk.below hb
  rw [← hB] at hPl hMk hE ⊢
  replace hH := ((hH.alloc _).alloc _).below hb
  replace hT := ((hT.alloc _).alloc _).below hb
  clear hb HR hB
  have c := hPl.2
  have p0 := c 0 _ rfl
  have p1 := c 1 _ rfl
  have p2 := c 2 _ rfl
  clear c
  have c := hMk.2
  have m0 := c 0 _ rfl
  have m1 := c 1 _ rfl
  have m2 := c 2 _ rfl
  have m3 := c 3 _ rfl
  have m4 := c 4 _ rfl
  clear c
  obtain ⟨r, hr0⟩ : ∃ r, r = !decide (Mk.right ⟨G, Q, SG, H, T⟩ g) := ⟨_, rfl⟩
  have HRR := Lib.hid hr0
  have HHL := Lib.hid hh
  clear hr0
  go_upto_region 3 with fail
  go_cut [11] (fun sx wx => sx = .bool r ∧ w1 = wx)
  case first =>
    clear hE HPL HB0 hr hl
    go_wp2_with fail
    all_goals go_meet
    all_goals refine ⟨?_, rfl⟩
    all_goals congr 1
    all_goals have hh := HHL.out
    all_goals rw [HRR.out, Bool.eq_iff_iff]
    all_goals simp only [Bool.not_eq_true', Mk.right, MT]
    all_goals (first | omega | (simp_all; done) | (simp_all; omega) | go_goals)
  case rest =>
  obtain ⟨rfl, rfl⟩ := hcut
  rw [decide_eq_true hr] at HRR
  obtain rfl : r = false := HRR.out
  clear hr hh p0 p1 p2 m0 m1 m2 m3 m4 HRR HHL
  go_upto_region 5 with fail
  obtain ⟨wd, hwd⟩ : ∃ wd, wd = w1.drew := ⟨_, rfl⟩
  have hb : Below w1.heap.size w1 wd := by rw [hwd]; exact (Below.refl _ _).drew
  have hPl := hPl.below hb
  have hMk := hMk.below hb
  have hH := hH.below hb
  have hT := hT.below hb
  have hE := hE.step hb
  clear hb
  refine held_start (by kernel_rfl) (fun hHeld => ?_)
  rw [← hwd] at hHeld ⊢
  clear hwd
  refine held_take (i := 0) (v := ?_) 44 rfl (by kernel_rfl) (by kernel_rfl) (by kernel_rfl) (fun _ _ _ h => h) rfl (by assumption) (Or.inl ⟨by rfl, ?_⟩) ?_
  rotate_left
  · intro w hSw; go_simp; (try with_reducible rfl)
  simp only [List.set_cons_zero, List.set_cons_succ]
  refine held_take (i := 1) (v := ?_) 45 rfl (by kernel_rfl) (by kernel_rfl) (by kernel_rfl) (fun _ _ _ h => h) rfl (by assumption) (Or.inl ⟨by rfl, ?_⟩) ?_
  rotate_left
  · intro w hSw; have c := (hMk.below hSw).2; have c4 := c 4 _ rfl; clear c; go_simp; (try with_reducible rfl)
  simp only [List.set_cons_zero, List.set_cons_succ]
  refine held_take (i := 2) (v := ?_) 46 rfl (by kernel_rfl) (by kernel_rfl) (by kernel_rfl) (fun _ _ _ h => h) rfl (by assumption) (Or.inl ⟨by rfl, ?_⟩) ?_
  rotate_left
  · intro w hSw; go_simp; (try with_reducible rfl)
  simp only [List.set_cons_zero, List.set_cons_succ]
  refine held_take (i := 3) (v := ?_) 47 rfl (by kernel_rfl) (by kernel_rfl) (by kernel_rfl) (fun _ _ _ h => h) rfl (by assumption) (Or.inl ⟨by rfl, ?_⟩) ?_
  rotate_left
  · intro w hSw; have c := (hPl.below hSw).2; have c0 := c 0 _ rfl; have c1 := c 1 _ rfl; have c2 := c 2 _ rfl; clear c; go_simp; (try with_reducible rfl)
  simp only [List.set_cons_zero, List.set_cons_succ]
  refine wpAnyH_ready (rs := [4]) (by kernel_rfl) (by simp) ?_
  refine (AllReadyH.cons rfl (fun K hK => ?_) AllReadyH.nil)
  go_simp
  refine (rroom_ok s p g _ HPL.out).mono ?_
  rintro e w1x ⟨rfl, hb⟩
  have hbt := HB.trans hHeld hb
  have hPl := hPl.below hbt
  have hMk := hMk.below hbt
  have hH := hH.below hbt
  have hT := hT.below hbt
  have hE := hE.step hbt
  go_wp2_with fail
  refine hK.out _ _ hbt (fun _ => held_next hbt (fun hHeld2 => ?_))
  clear hK hHeld hb hbt K
  have hHeld := hHeld2
  clear hHeld2
  refine held_take (i := 5) (v := ?_) 49 rfl (by kernel_rfl) (by kernel_rfl) (by kernel_rfl) (fun _ _ _ h => h) rfl (by assumption) (Or.inl ⟨by rfl, ?_⟩) ?_
  rotate_left
  · intro w hSw; go_simp; (try with_reducible rfl)
  simp only [List.set_cons_zero, List.set_cons_succ]
  refine held_take (i := 6) (v := ?_) 43 rfl (by kernel_rfl) (by kernel_rfl) (by kernel_rfl) (fun _ _ _ h => h) rfl (by assumption) (Or.inl ⟨by rfl, ?_⟩) ?_
  rotate_left
  · intro w hSw; go_simp; (try with_reducible rfl)
  simp only [List.set_cons_zero, List.set_cons_succ]
  refine wpAnyH_done (by kernel_rfl) ?_ _
  go_wp2_with fail
  go_ret2
  exact ⟨rfl, by rw [← HB0.out]; exact hE.1⟩
set_option maxHeartbeats 2000000 in
set_option maxRecDepth 100000 in
theorem rpenc_ok (s p g : Int) (m : Mk) (ah al : Option Addr) (lh ch lt ct : Nat) (w : World) (h : isPlan s p g) (hH : Bs w ah lh ch m.head) (hT : Bs w al lt ct m.state) (hr : m.right g) (hl : (lt : Int) ≤ 128 * p - 94) :
    Calls Tryd.prog 11 #[.agg #[.int .i64 s, .int .i64 p, .int .i64 g], .agg #[.int .u64 (m.gen : Int), .int .u64 (m.seq : Int), .int .i64 m.seg, .slice ah lh ch, .slice al lt ct]] w fun e w' => ∃ v, e = .returned (.tuple #[v, .int .i64 0]) ∧ Own w' w.heap.size v (ptBytes p.toNat m) ∧ Below w.heap.size w w' := by
  have hh := hH.1
  obtain ⟨G, Q, SG, H, T⟩ := m
  simp only at *
  have hPl := (CellsAt.new w (plC s p g) 32).below ((Below.refl _ _).alloc (Nat.le_refl _) (.cells (mkC ⟨G, Q, SG, H, T⟩ ah lh ch al lt ct).toArray 37))
  have hMk := CellsAt.new (w.alloc (.cells (plC s p g).toArray 32)) (mkC ⟨G, Q, SG, H, T⟩ ah lh ch al lt ct) 37
  have hE := ((Ext.refl w).alloc (.cells (plC s p g).toArray 32)).alloc (.cells (mkC ⟨G, Q, SG, H, T⟩ ah lh ch al lt ct).toArray 37)
  rw [World.size_alloc] at hMk
  have HR := Lib.hid (lrright_ok s p g ((w.alloc (.cells (plC s p g).toArray 32)).alloc (.cells (mkC ⟨G, Q, SG, H, T⟩ ah lh ch al lt ct).toArray 37)) h)
  have HPL := Lib.hid h
  obtain ⟨B, hB⟩ : ∃ B, B = w.heap.size := ⟨_, rfl⟩
  have HB0 := Lib.hid hB
  clear h
  go_enter Tryd.func11, Tryd.ntmps11
  go_wp2_with fail
  refine HR.out.mono ?_
  rintro e w1 ⟨rfl, hb⟩
  replace hE := hE.step hb
  replace hPl := hPl.below hb
  replace hMk := hMk.below hb
  rw [← hB] at hPl hMk hE ⊢
  replace hH := ((hH.alloc _).alloc _).below hb
  replace hT := ((hT.alloc _).alloc _).below hb
  clear hb HR hB
  have c := hPl.2
  have p0 := c 0 _ rfl
  have p1 := c 1 _ rfl
  have p2 := c 2 _ rfl
  clear c
  have c := hMk.2
  have m0 := c 0 _ rfl
  have m1 := c 1 _ rfl
  have m2 := c 2 _ rfl
  have m3 := c 3 _ rfl
  have m4 := c 4 _ rfl
  clear c
  obtain ⟨r, hr0⟩ : ∃ r, r = !decide (Mk.right ⟨G, Q, SG, H, T⟩ g) := ⟨_, rfl⟩
  have HRR := Lib.hid hr0
  have HHL := Lib.hid hh
  clear hr0
  go_upto_region 3 with fail
  go_cut [11] (fun sx wx => sx = .bool r ∧ w1 = wx)
  case first =>
    clear hE HPL HB0 hr hl
    go_wp2_with fail
    all_goals go_meet
    all_goals refine ⟨?_, rfl⟩
    all_goals congr 1
    all_goals have hh := HHL.out
    all_goals rw [HRR.out, Bool.eq_iff_iff]
    all_goals simp only [Bool.not_eq_true', Mk.right, MT]
    all_goals (first | omega | (simp_all; done) | (simp_all; omega) | go_goals)
  case rest =>
  obtain ⟨rfl, rfl⟩ := hcut
  rw [decide_eq_true hr] at HRR
  obtain rfl : r = false := HRR.out
  clear p0 p1 p2 m0 m1 m2 m3 m4 HRR HHL
  have hpb := HPL.out.bd
  obtain ⟨r1, r2, r3, r4, r5, r6⟩ := hr
  simp only at r1 r2 r3 r4 r5 r6
  obtain ⟨SN, rfl⟩ : ∃ SN : Nat, SG = (SN : Int) := ⟨SG.toNat, by omega⟩
  have hlh : lh = 32 := by rw [← hh]; exact r6
  subst hlh
  have hlt := hT.1
  have e5 : ¬ (128 * p - 94 < (lt : Int)) := by omega
  obtain ⟨k, hk⟩ : ∃ k : Nat, 128 * p - 94 - (lt : Int) = (k : Int) := ⟨(128 * p - 94 - (lt : Int)).toNat, by omega⟩
  have hkn : k = 128 * p.toNat - 94 - T.length := by omega
  have hkb : k ≤ 200000 := by omega
  have hltb : lt ≤ 200000 := by omega
  have i1 : IntKind.i64.wrap (128 * p) = 128 * p := IntWalk.i64_in _ (by omega)
  have iu : IntKind.u64.wrap (lt : Int) = (lt : Int) := by rw [IntKind.wrap_u64]; omega
  have i2 : IntKind.i64.wrap (128 * p - ((94 + lt : Nat) : Int)) = (k : Int) := by rw [IntWalk.i64_in _ (by omega)]; omega
  have i3 : IntKind.i64.wrap (128 * p - (94 + (lt : Int))) = (k : Int) := by rw [IntWalk.i64_in _ (by omega)]; omega
  have HX := Lib.hid (show ptBytes p.toNat ⟨G, Q, (SN : Int), H, T⟩ = ptHead G Q SN H T.length ++ (be (crcMore 0 (ptHead G Q SN H T.length) / 65536) 2 ++ (be (crcMore 0 (ptHead G Q SN H T.length)) 2 ++ (sha T ++ (T ++ List.replicate k 0)))) by rw [hkn]; rfl)
  have HLN := Lib.hid (ptHead_length G Q SN H T.length r6)
  have HTL := Lib.hid hlt
  have HR6 := Lib.hid r6
  clear r1 r2 r3 r4 r5 r6 hh hkn hk hlt
  go_upto_region 5 with fail
  obtain ⟨wd, hwd⟩ : ∃ wd, wd = w1.drew := ⟨_, rfl⟩
  have hb : Below w1.heap.size w1 wd := by rw [hwd]; exact (Below.refl _ _).drew
  have hPl := hPl.below hb
  have hMk := hMk.below hb
  have hH := hH.below hb
  have hT := hT.below hb
  have hE := hE.step hb
  clear hb
  refine held_start (by kernel_rfl) (fun hHeld => ?_)
  rw [← hwd] at hHeld ⊢
  clear hwd
  refine held_take (i := 0) (v := ?_) 44 rfl (by kernel_rfl) (by kernel_rfl) (by kernel_rfl) (fun _ _ _ h => h) rfl (by assumption) (Or.inl ⟨by rfl, ?_⟩) ?_
  rotate_left
  · intro w hSw; go_simp; (try with_reducible rfl)
  simp only [List.set_cons_zero, List.set_cons_succ]
  refine held_take (i := 1) (v := ?_) 45 rfl (by kernel_rfl) (by kernel_rfl) (by kernel_rfl) (fun _ _ _ h => h) rfl (by assumption) (Or.inl ⟨by rfl, ?_⟩) ?_
  rotate_left
  · intro w hSw; have c := (hMk.below hSw).2; have c4 := c 4 _ rfl; clear c; go_simp; (try with_reducible rfl)
  simp only [List.set_cons_zero, List.set_cons_succ]
  refine held_take (i := 2) (v := ?_) 46 rfl (by kernel_rfl) (by kernel_rfl) (by kernel_rfl) (fun _ _ _ h => h) rfl (by assumption) (Or.inl ⟨by rfl, ?_⟩) ?_
  rotate_left
  · intro w hSw; go_simp; (try with_reducible rfl)
  simp only [List.set_cons_zero, List.set_cons_succ]
  refine held_take (i := 3) (v := ?_) 47 rfl (by kernel_rfl) (by kernel_rfl) (by kernel_rfl) (fun _ _ _ h => h) rfl (by assumption) (Or.inl ⟨by rfl, ?_⟩) ?_
  rotate_left
  · intro w hSw; have c := (hPl.below hSw).2; have c0 := c 0 _ rfl; have c1 := c 1 _ rfl; have c2 := c 2 _ rfl; clear c; go_simp; (try with_reducible rfl)
  simp only [List.set_cons_zero, List.set_cons_succ]
  refine wpAnyH_ready (rs := [4]) (by kernel_rfl) (by simp) ?_
  refine (AllReadyH.cons rfl (fun K hK => ?_) AllReadyH.nil)
  go_simp
  refine (rroom_ok s p g _ HPL.out).mono ?_
  rintro e w1x ⟨rfl, hb⟩
  have hbt := HB.trans hHeld hb
  have hPl := hPl.below hbt
  have hMk := hMk.below hbt
  have hH := hH.below hbt
  have hT := hT.below hbt
  have hE := hE.step hbt
  go_wp2_with fail
  refine hK.out _ _ hbt (fun _ => held_next hbt (fun hHeld2 => ?_))
  clear hK hHeld hb hbt K
  have hHeld := hHeld2
  clear hHeld2
  refine held_take (i := 5) (v := ?_) 49 rfl (by kernel_rfl) (by kernel_rfl) (by kernel_rfl) (fun _ _ _ h => h) rfl (by assumption) (Or.inl ⟨by rfl, ?_⟩) ?_
  rotate_left
  · intro w hSw; go_simp; (try with_reducible rfl)
  simp only [List.set_cons_zero, List.set_cons_succ]
  refine held_take (i := 6) (v := ?_) 43 rfl (by kernel_rfl) (by kernel_rfl) (by kernel_rfl) (fun _ _ _ h => h) rfl (by assumption) (Or.inl ⟨by rfl, ?_⟩) ?_
  rotate_left
  · intro w hSw; go_simp; (try with_reducible rfl)
  simp only [List.set_cons_zero, List.set_cons_succ]
  refine wpAnyH_done (by kernel_rfl) ?_ _
  have c := hPl.2
  have q1 := c 1 _ rfl
  clear c
  have c := hMk.2
  have n0 := c 0 _ rfl
  have n1 := c 1 _ rfl
  have n2 := c 2 _ rfl
  have n3 := c 3 _ rfl
  have n4 := c 4 _ rfl
  clear c
  have hlP := hPl.1
  have hlM := hMk.1
  clear hPl hMk hHeld
  go_upto_region 7 with fail
  have HEB := Lib.hid hE
  clear hE
  generalize w1x = wb at *
  have hE := Ext.refl wb
  obtain ⟨p0, hp0⟩ : ∃ p0, p0 = wb.heap.size := ⟨_, rfl⟩
  rw [← hp0] at hE hlP hlM
  have HP0 := Lib.hid hp0
  have hH : Bs wb ah 32 ch H := hH
  clear hp0
  have hE := hE
  refine heldB_start (fun _ => true) (Ext p0 wb) (by kernel_rfl) hE.drew (fun hHeld => ?_)
  refine heldB_take (i := 0) (v := ?_) 50 rfl (by kernel_rfl) (by kernel_rfl) (by kernel_rfl) (by kernel_rfl) (fun _ _ _ h => h) rfl (by assumption) (Or.inl ⟨by rfl, ?_⟩) ?_
  rotate_left
  · intro w hSw; go_simp; (try with_reducible rfl)
  (try simp only [List.set_cons_zero, List.set_cons_succ])
  refine heldB_take (i := 1) (v := ?_) 51 rfl (by kernel_rfl) (by kernel_rfl) (by kernel_rfl) (by kernel_rfl) (fun _ _ _ h => h) rfl (by assumption) (Or.inl ⟨by rfl, ?_⟩) ?_
  rotate_left
  · intro w hSw; have c0 := (hSw.1.cell (p := ⟨B + 1, 0, none⟩) hlM).trans n0; go_simp; (try with_reducible rfl)
  (try simp only [List.set_cons_zero, List.set_cons_succ])
  refine heldB_take (i := 3) (v := ?_) 53 rfl (by kernel_rfl) (by kernel_rfl) (by kernel_rfl) (by kernel_rfl) (fun _ _ _ h => h) rfl (by assumption) (Or.inl ⟨by rfl, ?_⟩) ?_
  rotate_left
  · intro w hSw; go_simp; (try with_reducible rfl)
  (try simp only [List.set_cons_zero, List.set_cons_succ])
  refine heldB_take (i := 4) (v := ?_) 54 rfl (by kernel_rfl) (by kernel_rfl) (by kernel_rfl) (by kernel_rfl) (fun _ _ _ h => h) rfl (by assumption) (Or.inl ⟨by rfl, ?_⟩) ?_
  rotate_left
  · intro w hSw; have c1 := (hSw.1.cell (p := ⟨B + 1, 1, none⟩) hlM).trans n1; go_simp; (try with_reducible rfl)
  (try simp only [List.set_cons_zero, List.set_cons_succ])
  refine heldB_take (i := 6) (v := ?_) 56 rfl (by kernel_rfl) (by kernel_rfl) (by kernel_rfl) (by kernel_rfl) (fun _ _ _ h => h) rfl (by assumption) (Or.inl ⟨by rfl, ?_⟩) ?_
  rotate_left
  · intro w hSw; go_simp; (try with_reducible rfl)
  (try simp only [List.set_cons_zero, List.set_cons_succ])
  refine heldB_take (i := 7) (v := ?_) 57 rfl (by kernel_rfl) (by kernel_rfl) (by kernel_rfl) (by kernel_rfl) (fun _ _ _ h => h) rfl (by assumption) (Or.inl ⟨by rfl, ?_⟩) ?_
  rotate_left
  · intro w hSw; have c2 := (hSw.1.cell (p := ⟨B + 1, 2, none⟩) hlM).trans n2; go_simp; (try with_reducible rfl)
  (try simp only [List.set_cons_zero, List.set_cons_succ])
  refine heldB_one 2 (by kernel_rfl) rfl (fun K hK => ?_)
  go_simp
  refine (ref_long none 0 0 [] G _ (Bs.nil _) (by unfold big; decide)).mono ?_
  rintro e wa ⟨va, rfl, hOa, hb⟩
  obtain ⟨a1, c1, rfl, hB1⟩ := hOa.bsn (n := 8) (by simp [be_length])
  go_wp2_with fail
  replace hHeld : (Ext p0 wb) wa := (hHeld.step hb)
  refine hK.out _ _ (fun _ => hHeld) ?_
  clear hK K
  clear hb hOa
  refine heldB_one 5 (by kernel_rfl) rfl (fun K hK => ?_)
  go_simp
  refine (ref_long a1 8 c1 _ Q _ hB1 (by unfold big; decide)).mono ?_
  rintro e wc ⟨va, rfl, hOa, hb⟩
  obtain ⟨a2, c2, rfl, hB2⟩ := hOa.bsn (n := 16) (by simp [be_length])
  go_wp2_with fail
  replace hHeld : (Ext p0 wb) wc := (hHeld.step hb)
  refine hK.out _ _ (fun _ => hHeld) ?_
  clear hK K
  clear hb hOa hB1
  refine heldB_one 8 (by kernel_rfl) rfl (fun K hK => ?_)
  go_simp
  refine (ref_short a2 16 c2 _ SN _ hB2 (by unfold big; decide)).mono ?_
  rintro e wd ⟨vd, rfl, hOd, hb⟩
  replace hOd := hOd.base hHeld.2
  go_wp2_with fail
  replace hHeld : (Ext p0 wb) wd := (hHeld.step hb)
  refine hK.out _ _ (fun _ => hHeld) ?_
  clear hK K
  clear hb hB2
  refine heldB_take (i := 9) (v := ?_) 6 rfl (by kernel_rfl) (by kernel_rfl) (by kernel_rfl) (by kernel_rfl) (fun _ _ _ h => h) rfl (by assumption) (Or.inl ⟨by rfl, ?_⟩) ?_
  rotate_left
  · intro w hSw; go_simp; (try with_reducible rfl)
  (try simp only [List.set_cons_zero, List.set_cons_succ])
  refine heldB_done (by kernel_rfl) ?_ _
  go_upto_region 8 with fail
  replace hE := hHeld
  clear hHeld
  replace hOd := hOd.below ((Below.refl _ _).drew)
  replace hH := hH
  refine heldB_start (fun _ => true) (Ext p0 wb) (by kernel_rfl) (hE.drew) (fun hHeld => ?_)
  refine heldB_take (i := 0) (v := ?_) 59 rfl (by kernel_rfl) (by kernel_rfl) (by kernel_rfl) (by kernel_rfl) (fun _ _ _ h => h) rfl (by assumption) (Or.inl ⟨by rfl, ?_⟩) ?_
  rotate_left
  · intro w hSw; go_simp; (try with_reducible rfl)
  (try simp only [List.set_cons_zero, List.set_cons_succ])
  refine heldB_take (i := 1) (v := ?_) 60 rfl (by kernel_rfl) (by kernel_rfl) (by kernel_rfl) (by kernel_rfl) (fun _ _ _ h => h) rfl (by assumption) (Or.inl ⟨by rfl, ?_⟩) ?_
  rotate_left
  · intro w hSw; go_simp; (try with_reducible rfl)
  (try simp only [List.set_cons_zero, List.set_cons_succ])
  refine heldB_take (i := 2) (v := ?_) 61 rfl (by kernel_rfl) (by kernel_rfl) (by kernel_rfl) (by kernel_rfl) (fun _ _ _ h => h) rfl (by assumption) (Or.inl ⟨by rfl, ?_⟩) ?_
  rotate_left
  · intro w hSw; have c3 := (hSw.1.cell (p := ⟨B + 1, 3, none⟩) hlM).trans n3; go_simp; (try with_reducible rfl)
  (try simp only [List.set_cons_zero, List.set_cons_succ])
  refine heldB_take (i := 4) (v := ?_) 63 rfl (by kernel_rfl) (by kernel_rfl) (by kernel_rfl) (by kernel_rfl) (fun _ _ _ h => h) rfl (by assumption) (Or.inl ⟨by rfl, ?_⟩) ?_
  rotate_left
  · intro w hSw; go_simp; (try with_reducible rfl)
  (try simp only [List.set_cons_zero, List.set_cons_succ])
  refine heldB_take (i := 5) (v := ?_) 64 rfl (by kernel_rfl) (by kernel_rfl) (by kernel_rfl) (by kernel_rfl) (fun _ _ _ h => h) rfl (by assumption) (Or.inl ⟨by rfl, ?_⟩) ?_
  rotate_left
  · intro w hSw; have c4 := (hSw.1.cell (p := ⟨B + 1, 4, none⟩) hlM).trans n4; go_simp; (try with_reducible rfl)
  (try simp only [List.set_cons_zero, List.set_cons_succ])
  refine heldB_take (i := 6) (v := ?_) 65 rfl (by kernel_rfl) (by kernel_rfl) (by kernel_rfl) (by kernel_rfl) (fun _ _ _ h => h) rfl (by assumption) (Or.inl ⟨by rfl, ?_⟩) ?_
  rotate_left
  · intro w hSw; go_simp; (try with_reducible rfl)
  (try simp only [List.set_cons_zero, List.set_cons_succ])
  refine heldB_take (i := 7) (v := ?_) 66 rfl (by kernel_rfl) (by kernel_rfl) (by kernel_rfl) (by kernel_rfl) (fun _ _ _ h => h) rfl (by assumption) (Or.inl ⟨by rfl, ?_⟩) ?_
  rotate_left
  · intro w hSw; go_simp; (try with_reducible rfl)
  (try simp only [List.set_cons_zero, List.set_cons_succ])
  refine heldB_one 3 (by kernel_rfl) rfl (fun K hK => ?_)
  refine step_append_at (by rfl) (.tmp 59) (.tmp 61) rfl p0 vd _ ?_ hOd ah 32 ch H ?_ (hHeld.bs HP0.out.symm hH) (by simp [be_length]) hHeld.2 (fun v4 w4 hO4 hg _ => ?_)
  rfl
  rfl
  have hE4 := hHeld.grown hg hOd.blk
  obtain ⟨a4, c4, rfl, hB4⟩ := hO4.bsn (n := 50) (by simp [be_length, HR6.out])
  go_wp2_with fail
  replace hHeld : (Ext p0 wb) w4 := hE4
  refine hK.out _ _ (fun _ => hHeld) ?_
  clear hK K
  clear hE4 hg hOd hO4
  refine heldB_one 8 (by kernel_rfl) rfl (fun K hK => ?_)
  go_simp
  refine (ref_long a4 50 c4 _ lt _ hB4 (by unfold big; decide)).mono ?_
  rintro e w5 ⟨v5, rfl, hO5, hb⟩
  replace hO5 := hO5.base hHeld.2
  go_wp2_with fail
  replace hHeld : (Ext p0 wb) w5 := (hHeld.step hb)
  refine hK.out _ _ (fun _ => hHeld) ?_
  clear hK K
  clear hb hB4
  refine heldB_take (i := 9) (v := ?_) 6 rfl (by kernel_rfl) (by kernel_rfl) (by kernel_rfl) (by kernel_rfl) (fun _ _ _ h => h) rfl (by assumption) (Or.inl ⟨by rfl, ?_⟩) ?_
  rotate_left
  · intro w hSw; go_simp; (try with_reducible rfl)
  (try simp only [List.set_cons_zero, List.set_cons_succ])
  refine heldB_done (by kernel_rfl) ?_ _
  have e1 : [] ++ be G 8 ++ be Q 8 ++ be SN 2 ++ H ++ be lt 8 = ptHead G Q SN H T.length := by simp [ptHead, HTL.out]
  rw [e1] at hO5
  clear e1
  have hln := HLN.out
  generalize ptHead G Q SN H T.length = X at *
  obtain ⟨a5, c5, rfl, hB5⟩ := hO5.bsn (n := 58) hln
  go_wp2_with fail
  refine (refsum_any a5 58 c5 X w5 hB5).mono ?_
  rintro e w6 ⟨rfl, rfl⟩
  have hcl := crcMore_lt 0 X
  generalize crcMore 0 X = c at *
  go_wp2_with fail
  refine (ref_sum4 a5 58 c5 X c w5 hB5 (by unfold big; decide) hcl).mono ?_
  rintro e w8 ⟨vz, rfl, hOz, hb⟩
  replace hE := hHeld.step hb
  replace hOz := hOz.base hHeld.2
  clear hHeld hb hB5 hO5
  have hl62 : (X ++ be c 4).length = 62 := by simp [be_length, hln]
  have HY := Lib.hid (show X ++ be c 4 ++ sha T ++ T ++ List.replicate k 0 = X ++ (be (c / 65536) 2 ++ (be c 2 ++ (sha T ++ (T ++ List.replicate k 0)))) by rw [pt_be4]; simp only [List.append_assoc])
  generalize X ++ be c 4 = Y at *
  go_upto_region 10 with fail
  replace hOz := hOz.below ((Below.refl _ _).drew)
  refine heldB_start (fun _ => true) (Ext p0 wb) (by kernel_rfl) (hE.drew) (fun hHeld => ?_)
  refine heldB_take (i := 0) (v := ?_) 72 rfl (by kernel_rfl) (by kernel_rfl) (by kernel_rfl) (by kernel_rfl) (fun _ _ _ h => h) rfl (by assumption) (Or.inl ⟨by rfl, ?_⟩) ?_
  rotate_left
  · intro w hSw; go_simp; (try with_reducible rfl)
  (try simp only [List.set_cons_zero, List.set_cons_succ])
  refine heldB_take (i := 1) (v := ?_) 73 rfl (by kernel_rfl) (by kernel_rfl) (by kernel_rfl) (by kernel_rfl) (fun _ _ _ h => h) rfl (by assumption) (Or.inl ⟨by rfl, ?_⟩) ?_
  rotate_left
  · intro w hSw; go_simp; (try with_reducible rfl)
  (try simp only [List.set_cons_zero, List.set_cons_succ])
  refine heldB_take (i := 2) (v := ?_) 74 rfl (by kernel_rfl) (by kernel_rfl) (by kernel_rfl) (by kernel_rfl) (fun _ _ _ h => h) rfl (by assumption) (Or.inl ⟨by rfl, ?_⟩) ?_
  rotate_left
  · intro w hSw; have c4 := (hSw.1.cell (p := ⟨B + 1, 4, none⟩) hlM).trans n4; go_simp; (try with_reducible rfl)
  (try simp only [List.set_cons_zero, List.set_cons_succ])
  refine heldB_take (i := 5) (v := ?_) 77 rfl (by kernel_rfl) (by kernel_rfl) (by kernel_rfl) (by kernel_rfl) (fun _ _ _ h => h) rfl (by assumption) (Or.inl ⟨by rfl, ?_⟩) ?_
  rotate_left
  · intro w hSw; go_simp; (try with_reducible rfl)
  (try simp only [List.set_cons_zero, List.set_cons_succ])
  refine heldB_take (i := 6) (v := ?_) 78 rfl (by kernel_rfl) (by kernel_rfl) (by kernel_rfl) (by kernel_rfl) (fun _ _ _ h => h) rfl (by assumption) (Or.inl ⟨by rfl, ?_⟩) ?_
  rotate_left
  · intro w hSw; have c4 := (hSw.1.cell (p := ⟨B + 1, 4, none⟩) hlM).trans n4; go_simp; (try with_reducible rfl)
  (try simp only [List.set_cons_zero, List.set_cons_succ])
  refine heldB_one 3 (by kernel_rfl) rfl (fun K hK => ?_)
  go_simp
  refine (rsum_any al lt ct T _ (hHeld.bs HP0.out.symm hT) (by omega)).mono ?_
  rintro e w9 ⟨v9, rfl, hO9, hb⟩
  replace hOz := hOz.below hb
  obtain ⟨a9, c9, rfl, hB9⟩ := hO9.bsn (n := 32) (sha_length _)
  go_wp2_with fail
  replace hHeld : (Ext p0 wb) w9 := (hHeld.step hb)
  refine hK.out _ _ (fun _ => hHeld) ?_
  clear hK K
  refine heldB_one 4 (by kernel_rfl) rfl (fun K hK => ?_)
  refine step_append_at (by rfl) (.tmp 72) (.tmp 75) rfl p0 vz _ ?_ hOz a9 32 c9 _ ?_ hB9 (by omega) hHeld.2 (fun v10 w10 hO10 hg _ => ?_)
  rfl
  rfl
  have hE10 := hHeld.grown hg hOz.blk
  go_wp2_with fail
  replace hHeld : (Ext p0 wb) w10 := hE10
  refine hK.out _ _ (fun _ => hHeld) ?_
  clear hK K
  clear hE10 hg hB9 hO9 hOz
  refine heldB_one 7 (by kernel_rfl) rfl (fun K hK => ?_)
  refine step_append_at (by rfl) (.tmp 76) (.tmp 78) rfl p0 v10 _ ?_ hO10 al lt ct T ?_ (hHeld.bs HP0.out.symm hT) (by have := sha_length T; have := HTL.out; simp only [List.length_append]; omega) hHeld.2 (fun v11 w11 hO11 hg _ => ?_)
  rfl
  rfl
  have hE11 := hHeld.grown hg hO10.blk
  go_wp2_with fail
  replace hHeld : (Ext p0 wb) w11 := hE11
  refine hK.out _ _ (fun _ => hHeld) ?_
  clear hK K
  clear hE11 hg hO10
  refine heldB_take (i := 8) (v := ?_) 6 rfl (by kernel_rfl) (by kernel_rfl) (by kernel_rfl) (by kernel_rfl) (fun _ _ _ h => h) rfl (by assumption) (Or.inl ⟨by rfl, ?_⟩) ?_
  rotate_left
  · intro w hSw; go_simp; (try with_reducible rfl)
  (try simp only [List.set_cons_zero, List.set_cons_succ])
  refine heldB_done (by kernel_rfl) ?_ _
  have hl11 : (Y ++ sha T ++ T).length = 94 + lt := by have h1 := sha_length T; have h2 := HTL.out; simp only [List.length_append]; omega
  obtain ⟨gz, cz, rfl, hgz, hRow⟩ : ∃ gz cz, v11 = .slice (some ⟨gz, 0, none⟩) (Y ++ sha T ++ T).length cz ∧ p0 ≤ gz ∧ Row w11 gz cz (Y ++ sha T ++ T) := by
    rcases hO11.parts with ⟨_, h2⟩ | ⟨gz, cz, h1, h2, h3⟩
    · rw [h2] at hl11; simp at hl11; omega
    · exact ⟨gz, cz, h1, h2, h3⟩
  rw [hl11]
  have d1 := (hHeld.1.cell (p := ⟨B, 1, none⟩) hlP).trans q1
  clear hO11
  go_upto_region 11 with fail
  have hlk : 94 + lt + k ≤ 1000000 := by omega
  go_wp2_with (at_builtin; refine wpList_append_zeros_any rfl (.tmp 80) (.tmp 86) rfl p0 gz cz _ (94 + lt) k hl11 rfl rfl hRow hgz hHeld.2 hlk ?_)
  intro v12 w12 hO12 hg12
  have hE12 := hHeld.grown hg12 (fun k hk => by cases hk; exact hgz)
  go_wp2_with fail
  go_ret2
  have hEz := HEB.out.to (hE12.1.mono (by rw [HP0.out]; exact HEB.out.2))
  exact ⟨v12, rfl, by rw [HX.out, ← HY.out, ← HB0.out]; have h := hO12.weaken (by rw [HP0.out]; exact HEB.out.2); simp only [List.append_assoc] at h ⊢; exact h, by rw [← HB0.out]; exact hEz.1⟩
end Go.Proofs.YtdglhonogopciaaDoor
