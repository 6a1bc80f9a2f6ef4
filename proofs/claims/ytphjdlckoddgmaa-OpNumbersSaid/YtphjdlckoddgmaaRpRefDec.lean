/- The contract of permafrostref15.DecodeReply. -/
import Derived.Test.YtphjdlckoddgmaaRpI
import Derived.Test.YtphjdlckoddgmaaOpRefDec
import Derived.Test.YtphjdlckoddgmaaHeldB
import Derived.Deep.DeepCutAuto
namespace Go.Proofs.Ytphjdlckoddgmaa
open Go.RowKit

set_option maxHeartbeats 8000000 in
set_option maxRecDepth 100000 in
theorem rrpdec_any (ad : Option Addr) (len cap : Nat) (xs : List UInt8) (w : World) (h : Bs w ad len cap xs) (hl : len ≤ big) :
    Calls Try.prog 58 #[.slice ad len cap] w fun e w' => RpPost xs w.heap.size e w' ∧ Below w.heap.size w w' := by
  have hxl := h.1
  unfold RpPost
  have hD : rpDec xs = if (rpNode xs).isSome ∧ rdEnd (rpS7 xs).2 = 0 ∧ (rpOf xs).Fine then (rpOf xs, 0) else (zeroRp, 12) := rfl
  have HD := Lib.hid hD
  clear hD
  generalize rpDec xs = D at *
  have l1 : (rpS1 xs).2.1.length ≤ len := Nat.le_trans (rdRaw_left (xs, 0) 1) (Nat.le_of_eq hxl)
  have l2 : (rpS2 xs).2.1.length ≤ (rpS1 xs).2.1.length := rdRaw_left _ 2
  have l3 : (rpS3 xs).2.1.length ≤ (rpS2 xs).2.1.length := Nat.le_trans (rdRaw_left _ _) (rdRaw_left _ 2)
  have l4 : (rpS4 xs).2.1.length ≤ (rpS3 xs).2.1.length := rdRaw_left _ 1
  have hn4 : (rpS4 xs).1 < 256 := rdByte_lt _
  have hz := heap_alloc_new w (.cells (rpV zeroRp zv zv) 45)
  have hE0 := (Ext.refl w).alloc (.cells (rpV zeroRp zv zv) 45)
  have h0 := h.alloc (.cells (rpV zeroRp zv zv) 45)
  have HV : ∃ V, V = rpV zeroRp zv zv := ⟨_, rfl⟩
  obtain ⟨H, hH⟩ : ∃ H, H = w.heap.size := ⟨_, rfl⟩
  rw [← hH] at hz hE0 ⊢
  have HH := Lib.hid hH
  clear h HV
  unfold rpV zeroRp zeroNd zv at hz hE0 h0
  simp only at hz hE0 h0
  go_enter Try.func58, Try.ntmps58
  go_upto_region 1 with fail
  rw [← hH]
  clear hH
  generalize w.alloc _ = w0 at *
  go_upto_region 2 with fail
  have hR1 := RR.new h0 hl
  have hz1 := (Below.heap_alloc w0 (.cells #[.slice ad len cap, .int .i64 0, .int .i64 0] 91) _ (lt_of_heap hz)).trans hz
  have hE1 := hE0.alloc (.cells #[.slice ad len cap, .int .i64 0, .int .i64 0] 91)
  have hHq := lt_of_heap hz
  clear hz hE0 h0
  generalize w0.alloc _ = w1 at *
  generalize w0.heap.size = q at *
  have C1 := rref_byte q q xs (xs, 0) w1 hR1
  change Calls _ _ _ _ (fun e w' => e = .returned (.int .i64 ((rpS1 xs).1 : Nat)) ∧ RRPost w1 q q xs (rpS1 xs).2 w') at C1
  have HC1 := Lib.hid C1
  clear C1
  go_wp2_with fail
  refine HC1.out.mono ?_
  rintro e w2 ⟨rfl, hP2⟩
  have C2 := rref_short q q xs (rpS1 xs).2 w2 hP2.1
  change Calls _ _ _ _ (fun e w' => e = .returned (.int .i64 ((rpS2 xs).1 : Nat)) ∧ RRPost w2 q q xs (rpS2 xs).2 w') at C2
  have HC2 := Lib.hid C2
  have hc2 := hP2.2
  have hE2 := hE1.to (hc2.below hE1.2 (fun _ _ hk => by subst hk; exact Nat.le_of_lt hHq))
  have hz2 := (hc2.block H (lt_of_heap hz1) (Nat.ne_of_lt hHq)).trans hz1
  clear C2 HC1 hP2 hR1 hE1 hz1
  go_wp2_with fail
  refine HC2.out.mono ?_
  rintro e w3 ⟨rfl, hP3⟩
  have C3 := rref_bytes q q xs (rpS2 xs).2 w3 hP3.1
  change Calls _ _ _ _ (fun e w' => ∃ v, e = .returned v ∧ Own w' w3.heap.size v (rpS3 xs).1 ∧ RRPost w3 q q xs (rpS3 xs).2 w') at C3
  have HC3 := Lib.hid C3
  have hc3 := hP3.2
  have hE3 := hE2.to (hc3.below hE2.2 (fun _ _ hk => by subst hk; exact Nat.le_of_lt hHq))
  have hz3 := (hc3.block H (lt_of_heap hz2) (Nat.ne_of_lt hHq)).trans hz2
  have hq3 := RR.lt hP3.1
  clear C3 HC2 hP3 hE2 hz2
  go_wp2_with fail
  refine HC3.out.mono ?_
  rintro e w4 ⟨dv, rfl, ho4, hP4⟩
  have hc4 := hP4.2
  have hE4 := hE3.to (hc4.below hE3.2 (fun _ _ hk => by subst hk; exact Nat.le_of_lt hHq))
  have hz4 := (hc4.block H (lt_of_heap hz3) (Nat.ne_of_lt hHq)).trans hz3
  have hR4 := hP4.1
  have hd4 : ∀ k, dv.ownBlock = some k → q < k ∧ k < w4.heap.size := fun k hk => by
    rcases ho4.parts with ⟨rfl, h2⟩ | ⟨g, c, rfl, hB, hr⟩
    · cases hk
    · simp [Value.ownBlock] at hk
      subst hk
      exact ⟨Nat.lt_of_lt_of_le hq3 hB, hr.lt⟩
  have ho4 := ho4.base hE3.2
  clear HC3 hP4 hE3 hz3
  obtain ⟨a4, k4, rfl, hB4⟩ := ho4.bs
  go_upto_region 3 with fail
  obtain ⟨O, hO⟩ : ∃ O, O = w4.heap.size := ⟨_, rfl⟩
  have hz5 := (Below.heap_alloc w4 (.cells (rpV ⟨(rpS1 xs).1, (rpS2 xs).1, (rpS3 xs).1, [], zeroNd⟩ (.slice a4 (rpS3 xs).1.length k4) zv) 45) _ (lt_of_heap hz4)).trans hz4
  have ho5 := heap_alloc_new w4 (.cells (rpV ⟨(rpS1 xs).1, (rpS2 xs).1, (rpS3 xs).1, [], zeroNd⟩ (.slice a4 (rpS3 xs).1.length k4) zv) 45)
  have hE5 := hE4.alloc (.cells (rpV ⟨(rpS1 xs).1, (rpS2 xs).1, (rpS3 xs).1, [], zeroNd⟩ (.slice a4 (rpS3 xs).1.length k4) zv) 45)
  have hR5 := RR.chg hR4 (Below.alloc (Below.refl _ _) (Nat.le_refl _) (.cells (rpV ⟨(rpS1 xs).1, (rpS2 xs).1, (rpS3 xs).1, [], zeroNd⟩ (.slice a4 (rpS3 xs).1.length k4) zv) 45))
  have hd5 := ho4.alloc (.cells (rpV ⟨(rpS1 xs).1, (rpS2 xs).1, (rpS3 xs).1, [], zeroNd⟩ (.slice a4 (rpS3 xs).1.length k4) zv) 45)
  have hq4 := RR.lt hR4
  rw [← hO] at ho5 hd4 hq4 ⊢
  have hfar : ∀ W W' T, O < W.heap.size → Chg (fun k => O ≤ k) W W' → RrR q xs W T → RrR q xs W' T := fun W W' T _ hc hr => RR.other hr hc (fun k hk h => by omega)
  have hI5 : RpI (RrR q xs) w H q O ⟨(rpS1 xs).1, (rpS2 xs).1, (rpS3 xs).1, [], zeroNd⟩ (.slice a4 (rpS3 xs).1.length k4) zv (rpS3 xs).2 (w4.alloc (.cells (rpV ⟨(rpS1 xs).1, (rpS2 xs).1, (rpS3 xs).1, [], zeroNd⟩ (.slice a4 (rpS3 xs).1.length k4) zv) 45)) :=
    ⟨hE5, hR5, by omega, ho5, hz5, hHq, hq4, hd5, hd4, OwnS.nil _ _, (fun k hk => by cases hk), hfar⟩
  have e5 : Obj.cells (rpV ⟨(rpS1 xs).1, (rpS2 xs).1, (rpS3 xs).1, [], zeroNd⟩ (.slice a4 (rpS3 xs).1.length k4) zv) 45 = Obj.cells #[.int .i64 ((rpS1 xs).1 : Nat), .int .i64 ((rpS2 xs).1 : Nat), .slice a4 (rpS3 xs).1.length k4, .slice none 0 0, .int .i64 0, .int .i64 0, .int .i64 0, .int .i64 0, .int .u64 0, .bool false] 45 := rfl
  rw [e5] at hI5
  clear e5 hz5 ho5 hE5 hR5 hd5 hq4 hfar hO ho4 hB4 hd4 hR4 hz4 hE4 hc4 hc3 hc2
  generalize w4.alloc _ = w5 at *
  have C4 := rref_byte q q xs (rpS3 xs).2 w5 hI5.rd
  change Calls _ _ _ _ (fun e w' => e = .returned (.int .i64 ((rpS4 xs).1 : Nat)) ∧ RRPost w5 q q xs (rpS4 xs).2 w') at C4
  have HC4 := Lib.hid C4
  clear C4
  go_wp2_with fail
  refine HC4.out.mono ?_
  rintro e w6 ⟨rfl, hP6⟩
  have hI6 := hI5.read hP6.1 hP6.2 l4
  clear hI5 HC4 hP6
  have h5l : rpS5 xs = rdNames (rpS4 xs).1 (rpS4 xs).2 := rfl
  have H5 := Lib.hid h5l
  clear h5l
  have HO1 := Lib.hid (show rpOf xs = ⟨(rpS1 xs).1, (rpS2 xs).1, (rpS3 xs).1, (rpS5 xs).1, (rpNode xs).getD zeroNd⟩ from rfl)
  have h6l : rpS6 xs = rdFlag (rpS5 xs).2 := rfl
  have h7l : rpS7 xs = opt (rpS6 xs).1 [] rdBytes (rpS6 xs).2 := rfl
  have hnd : rpNode xs = if (rpS6 xs).1 then ndDec (rpS7 xs).1 else some zeroNd := rfl
  have H6 := Lib.hid h6l
  have H7 := Lib.hid h7l
  have HN := Lib.hid hnd
  clear h6l h7l hnd
  generalize rpOf xs = ro at *
  generalize rpNode xs = nn at *
  generalize rpS7 xs = S7 at *
  generalize rpS6 xs = S6 at *
  generalize rpS5 xs = S5 at *
  generalize rpS4 xs = S4 at *
  generalize (rpS3 xs).1.length = dlen at *
  generalize (rpS3 xs).1 = x3 at *
  generalize (rpS2 xs).1 = x2 at *
  generalize (rpS1 xs).1 = x1 at *
  clear l1 l2 l3 l4
  obtain ⟨n, T4⟩ := S4
  simp only at hn4 H5 hI6 ⊢
  go_wp2_with fail
  go_loopw [6] (fun i wr => ∃ (k : Nat) (nv : Value), k ≤ n ∧ i = .int .i64 ((n : Int) - (k : Int)) ∧ RpI (RrR q xs) w H q O ⟨x1, x2, x3, (rdNames k T4).1, zeroNd⟩ (.slice a4 dlen k4) nv (rdNames k T4).2 wr) (fun i _ => (intOf i).toNat)
  case atStart => exact ⟨0, zv, by omega, by simp, hI6⟩
  case round =>
    obtain ⟨k, nv, hk, rfl, hI⟩ := hrel
    clear hI6
    have hw1 : ∃ (a : Option Addr) (cap : Nat), wr.heap[q]? = some (.cells #[.slice a xs.length cap, .int .i64 ((xs.length - (rdNames k T4).2.1.length : Nat) : Int), .int .i64 ((rdNames k T4).2.2 : Int)] 91 (0, 0)) := by
      obtain ⟨_, _, a, cap, h1, _⟩ := hI.rd
      exact ⟨a, cap, h1⟩
    obtain ⟨qa, qc, hw1⟩ := hw1
    have cw := (three_cells hw1).2.2.1
    clear hw1
    by_cases hkn : k < n
    · have hk0 : (0 : Int) < (n : Int) - (k : Int) := by omega
      have hwr : IntKind.i64.wrap ((n : Int) - (k : Int) - 1) = (n : Int) - (k : Int) - 1 := IntWalk.i64_in _ (by omega)
      by_cases hwy : (rdNames k T4).2.2 = 0
      case neg =>
        have hkeep := rdNames_stay k n T4 hwy (by omega)
        rw [← H5.out] at hkeep
        have HI := Lib.hid hI
        have hNL : (rdNames k T4).1.length = k := rdNames_length _ _
        generalize rdNames k T4 = NK at *
        obtain ⟨L, zs, y⟩ := NK
        simp only at hwy HI cw hNL
        have HD2 := Lib.hid (HD.out.trans (if_neg (fun h => by
          have h5 := rdFlag_errs S5.2.1 S5.2.2 hkeep
          have e6 : S6 = (false, S5.2) := H6.out.trans h5
          have e7 : S7 = ([], S5.2) := by rw [H7.out, e6]; rfl
          have h7 := h.2.1
          rw [e7] at h7
          exact hkeep (congrArg Prod.snd (rdEnd_zero h7)))))
        have hy1 : ((y : Int) == 0) = false := by simp; omega
        have hy2 : ¬ (y : Int) = 0 := by omega
        have CF := rref_flag q q xs (zs, y) wr HI.out.rd
        rw [rdFlag_errs zs y hwy] at CF
        have HCF := Lib.hid CF
        have HWY := Lib.hid hwy
        clear CF hI hkeep hwy
        generalize hNLn : k = NL at hNL
        go_wp2_with fail
        refine HCF.out.mono ?_
        rintro e w7 ⟨rfl, hP7⟩
        have HI := Lib.hid (HI.out.read hP7.1 hP7.2 (Nat.le_refl _))
        clear HCF hP7 cw hy1 hy2
        have hd3 : x3.length = dlen := by
          obtain ⟨a, c, e, _⟩ := HI.out.dat.bs
          injection e with _ e _
          exact e.symm
        have HB3 : Bs w7 a4 dlen k4 x3 := by
          obtain ⟨a, c, e, hb⟩ := HI.out.dat.bs
          injection e with e1 e2 e3
          subst e1 e3
          rw [hd3] at hb
          exact hb
        obtain ⟨na, nc, rfl, hS⟩ := HI.out.nam.ss (n := NL) hNL
        have HE := Lib.hid (rrpenc_any x1 x2 a4 dlen k4 x3 na NL nc L zeroNd w7 HB3 hS)
        unfold rpCells at HE
        clear HB3 hS hd3
        have c := cells_at HI.out.o
        have c0 := c 0; have c1 := c 1; have c2 := c 2; have c3 := c 3; have c4 := c 4; have c5 := c 5; have c6 := c 6; have c7 := c 7; have c8 := c 8; have c9 := c 9
        simp only [rpV, zeroNd, List.getElem?_toArray, List.getElem?_cons_zero, List.getElem?_cons_succ] at c0 c1 c2 c3 c4 c5 c6 c7 c8 c9
        clear c
        go_wp2_with fail
        refine HE.out.mono ?_
        rintro e w12 ⟨v12, rfl, _, hb12⟩
        have HI := Lib.hid (HI.out.below hb12)
        have HEND := Lib.hid (rref_end q q xs (zs, y) w12 HI.out.rd)
        clear c0 c1 c2 c3 c4 c5 c6 c7 c8 c9 HE hb12
        have hen : ∃ en : Nat, en = rdEnd (zs, y) := ⟨_, rfl⟩
        obtain ⟨en, hen⟩ := hen
        rw [← hen] at HEND
        have h1 : ((en : Nat) : Int) ≠ 0 := by
          intro e
          have : rdEnd (zs, y) = 0 := by omega
          exact HWY.out (congrArg Prod.snd (rdEnd_zero this))
        have h2 : (((en : Nat) : Int) != 0) = true := by rw [bne_iff_ne]; exact h1
        clear hen h1
        go_wp2_with fail
        refine HEND.out.mono ?_
        rintro e w13 ⟨rfl, hb13⟩
        have HI := Lib.hid (HI.out.below hb13)
        have F := frozen_at HI.out.z
        have z0 := F 0; have z1 := F 1; have z2 := F 2; have z3 := F 3; have z4 := F 4; have z5 := F 5; have z6 := F 6; have z7 := F 7; have z8 := F 8; have z9 := F 9
        have C := cells_at HI.out.z
        have y0 := C 0; have y1 := C 1; have y2 := C 2; have y3 := C 3; have y4 := C 4; have y5 := C 5; have y6 := C 6; have y7 := C 7; have y8 := C 8; have y9 := C 9
        simp only [rpV, zeroRp, zeroNd, zv, List.getElem?_toArray, List.getElem?_cons_zero, List.getElem?_cons_succ] at y0 y1 y2 y3 y4 y5 y6 y7 y8 y9
        clear F C
        go_wp2_with fail
        refine bodyPost_ret (v := .tuple #[.agg (rpV zeroRp zv zv), .int .i64 12]) (by simp [results, Try.results58, go_sem, rpV, zeroRp, zeroNd, zv, y0, y1, y2, y3, y4, y5, y6, y7, y8, y9]) rfl ⟨⟨zv, zv, by rw [HD2.out]; rfl, by rw [HD2.out]; exact Own.nil _ _, by rw [HD2.out]; exact OwnS.nil _ _⟩, ?_⟩
        exact ((((((((((HI.out.ext.setCell (Nat.le_refl _) _).setCell (Nat.le_refl _) _).setCell (Nat.le_refl _) _).setCell (Nat.le_refl _) _).setCell (Nat.le_refl _) _).setCell (Nat.le_refl _) _).setCell (Nat.le_refl _) _).setCell (Nat.le_refl _) _).setCell (Nat.le_refl _) _).setCell (Nat.le_refl _) _).1
      rw [hwy] at cw
      have cw' : wr.cell? ⟨q, 2, none⟩ = some (.int .i64 0) := cw
      clear cw hwy
      have hns := rdNames_succ k T4
      have HNS := Lib.hid hns
      clear hns
      have hlen : (rdNames k T4).1.length = k := rdNames_length _ _
      generalize (rdNames k T4) = NK at *
      obtain ⟨L, TK⟩ := NK
      simp only at hI HNS hlen
      have c3 := hI.o
      have c3 := cells_at c3 3
      simp only [rpV, List.getElem?_toArray, List.getElem?_cons_zero, List.getElem?_cons_succ] at c3
      obtain ⟨na, nc, rfl, hS⟩ := hI.nam.ss hlen
      go_upto_region 6 with fail
      have hId := hI.below ((Below.refl _ _).drew)
      clear hI
      refine heldB_start (fun i => [1, 3, 4, 5].contains i) (fun w' => w'.cell? ⟨O, 3, none⟩ = some (.slice na k nc)) (by kernel_rfl) ?_ (fun hHeld => ?_)
      · go_keep
      refine heldB_free (i := 0) (v := ?_) 34 rfl (by kernel_rfl) (by kernel_rfl) (by kernel_rfl) (by kernel_rfl) (fun _ _ _ h => h) rfl (Or.inl ⟨by rfl, ?_⟩) ?_
      rotate_left
      · intro w hSw; (try dsimp only at hSw); go_simp; (try with_reducible rfl)
      simp only [List.set_cons_zero, List.set_cons_succ]
      refine heldB_free (i := 2) (v := ?_) 36 rfl (by kernel_rfl) (by kernel_rfl) (by kernel_rfl) (by kernel_rfl) (fun _ _ _ h => h) rfl (Or.inl ⟨by rfl, ?_⟩) ?_
      rotate_left
      · intro w hSw; (try dsimp only at hSw); go_simp; (try with_reducible rfl)
      simp only [List.set_cons_zero, List.set_cons_succ]
      refine heldB_take (i := 1) (v := ?_) 35 rfl (by kernel_rfl) (by kernel_rfl) (by kernel_rfl) (by kernel_rfl) (fun _ _ _ h => h) rfl (by assumption) (Or.inl ⟨by rfl, ?_⟩) ?_
      rotate_left
      · intro w hSw; (try dsimp only at hSw); go_simp; (try with_reducible rfl)
      simp only [List.set_cons_zero, List.set_cons_succ]
      refine heldB_one 3 (by kernel_rfl) rfl (fun K hK => ?_)
      go_simp
      refine (rref_bytes q q xs TK _ hId.rd).mono ?_
      rintro e w7 ⟨v7, rfl, ho7, hP7⟩
      have hI7 := hId.read hP7.1 hP7.2 (Nat.le_trans (rdRaw_left _ _) (rdRaw_left TK 2))
      have c7 := cells_at hI7.o 3
      simp only [rpV, List.getElem?_toArray, List.getElem?_cons_zero, List.getElem?_cons_succ] at c7
      obtain ⟨a7, k7, rfl, hB7⟩ := ho7.bs
      clear hId hHeld ho7 hP7 c3 hS
      go_wp2_with fail
      refine hK.out _ _ (fun _ => c7) ?_
      clear hK K
      refine heldB_one 4 (by kernel_rfl) rfl (fun K hK => ?_)
      have s1 := run_string hB7
      go_simp
      refine hK.out _ _ (fun _ => c7) ?_
      clear hK K s1 hB7
      generalize (rdBytes TK).1 = x at *
      generalize x.length = xl at *
      refine heldB_one 5 (by kernel_rfl) rfl (fun K hK => ?_)
      go_simp
      have hbl : Below w7.heap.size w7 (w7.alloc (.cells #[.string (strOf x)] TST)) := Below.alloc (Below.refl _ _) (Nat.le_refl _) _
      have c8 := (hbl.cell (p := ⟨O, 3, none⟩) hI7.lt).trans c7
      refine hK.out _ _ (fun _ => c8) ?_
      clear hK K hbl
      refine heldB_one 6 (by kernel_rfl) rfl (fun K hK => ?_)
      have hnb : L.length + 1 ≤ 1000000 := by omega
      refine step_append_str rfl (.tmp 35) (.tmp 39) rfl rfl H (.slice na k nc) L rfl hI7.nam x hnb hI7.ext.2 (fun v9 w9 h9 hg9 ho9 => ?_)
      have hI9 := hI7.name x h9 hg9 ho9
      have hc9 : Chg (fun k => O < k) w7 w9 := ((Chg.refl (fun k => O < k) w7).alloc _).grown hg9 (fun k _ hk => hI7.nO k hk)
      have hh9 := (hc9.block O hI7.lt (Nat.lt_irrefl O)).trans hI7.o
      have f9 := frozen_at hh9 3
      have c9 := cells_at hh9 3
      simp only [rpV, List.getElem?_toArray, List.getElem?_cons_zero, List.getElem?_cons_succ] at c9
      obtain ⟨na9, nc9, rfl, _⟩ := h9.ss (n := k + 1) (by simp [hlen])
      clear hc9 hh9 h9 hg9 ho9 c8 hI7
      go_simp
      refine hK.out _ _ (fun h => by simp at h) ?_
      clear hK K
      refine heldB_one 7 (by kernel_rfl) rfl (fun K hK => ?_)
      go_simp
      refine hK.out _ _ (fun h => by simp at h) ?_
      clear hK K
      refine heldB_one 8 (by kernel_rfl) rfl (fun K hK => ?_)
      go_simp
      refine hK.out _ _ (fun h => by simp at h) ?_
      clear hK K c9 f9
      refine heldB_done (by kernel_rfl) ?_ _
      go_wp2_with fail
      go_roundw
      case rel => exact ⟨k + 1, _, by omega, by congr 1; omega, by rw [HNS.out]; exact hI9⟩
      case measure => simp [intOf]; omega
    · obtain rfl : k = n := by omega
      rw [← H5.out] at hI
      have hNL : S5.1.length = k := by rw [H5.out]; exact rdNames_length _ _
      obtain ⟨x5, T5⟩ := S5
      simp only at hI H6 HO1 hNL
      have CF := rref_flag q q xs T5 wr hI.rd
      rw [← H6.out] at CF
      have HCF := Lib.hid CF
      clear CF H5 cw hkn
      generalize hNLn : k = NL at hNL
      simp only [Int.sub_self]
      go_wp2_with fail
      refine HCF.out.mono ?_
      rintro e w7 ⟨rfl, hP7⟩
      have hI7 := hI.read hP7.1 hP7.2 (by rw [H6.out]; exact rdFlag_less T5)
      clear hI HCF hP7
      obtain ⟨f, T6⟩ := S6
      simp only at hI7 H7 HN ⊢
      go_upto_if 43 with fail
      go_cut [] (fun wx => ∃ m, nn = some m ∧ RpI (RrR q xs) w H q O ⟨x1, x2, x3, x5, m⟩ (.slice a4 dlen k4) nv S7.2 wx)
      case first =>
        cases f
        · have e7 : S7 = ([], T6) := H7.out.trans (opt_false _ _ _)
          have en : nn = some zeroNd := HN.out.trans (if_neg (by decide))
          subst e7
          have HI := Lib.hid hI7
          have HEN := Lib.hid en
          clear hI7 en
          go_wp2_with fail
          go_meet
          exact ⟨zeroNd, HEN.out, HI.out⟩
        · have e7 : S7 = rdBytes T6 := H7.out.trans (opt_true _ _ _)
          have en : nn = ndDec S7.1 := HN.out.trans (if_pos rfl)
          have C7 := rref_bytes q q xs T6 w7 hI7.rd
          rw [← e7] at C7
          have HC7 := Lib.hid C7
          have H7l := Lib.hid (show S7.2.1.length ≤ T6.1.length from by rw [e7]; exact rdBytes_less T6)
          have HEN := Lib.hid en
          have H71 : S7.1.length ≤ big := by rw [e7]; exact Nat.le_trans (rdBytes_within T6) hI7.len
          clear C7 e7 en H7 HN
          go_wp2_with fail
          refine HC7.out.mono ?_
          rintro e w8 ⟨v8, rfl, ho8, hP8⟩
          have hI8 := hI7.read hP8.1 hP8.2 H7l.out
          obtain ⟨a8, k8, rfl, hB8⟩ := ho8.bs
          have C8 := rndec_any a8 S7.1.length k8 S7.1 w8 hB8 H71
          have HOK : ∀ m, nn = some m → m.Ok := fun m hm => by
            rw [HEN.out] at hm
            exact (ndDec_inv _ _ hm).1
          rw [← HEN.out] at C8
          have HOK2 := Lib.hid HOK
          have HC8 := Lib.hid C8
          have HI := Lib.hid hI8
          clear hI7 HC7 hP8 ho8 C8 HOK hI8 HEN
          cases nn with
          | none =>
            have HD2 := Lib.hid (HD.out.trans (if_neg (fun h => by simp at h)))
            have HC8 := Lib.hid (show Calls Try.prog 77 #[.slice a8 S7.1.length k8] w8 fun e w' => e = .returned (.tuple #[.agg #[.int .i64 0, .int .i64 0, .int .i64 0, .int .i64 0, .int .u64 0, .bool false], .int .i64 12]) ∧ Below w8.heap.size w8 w' from HC8.out)
            go_wp2_with fail
            refine HC8.out.mono ?_
            rintro e w9 ⟨rfl, hb9⟩
            have HI := Lib.hid ((HI.out.below hb9).below (Below.alloc (Below.refl _ _) (Nat.le_refl _) (.cells #[.int .i64 0, .int .i64 0, .int .i64 0, .int .i64 0, .int .u64 0, .bool false] 43)))
            clear hb9 HC8 hB8
            go_upto_region 9 with fail
            generalize w9.alloc _ = w10 at *
            have F := frozen_at HI.out.z
            have z0 := F 0; have z1 := F 1; have z2 := F 2; have z3 := F 3; have z4 := F 4; have z5 := F 5; have z6 := F 6; have z7 := F 7; have z8 := F 8; have z9 := F 9
            have C := cells_at HI.out.z
            have y0 := C 0; have y1 := C 1; have y2 := C 2; have y3 := C 3; have y4 := C 4; have y5 := C 5; have y6 := C 6; have y7 := C 7; have y8 := C 8; have y9 := C 9
            simp only [rpV, zeroRp, zeroNd, zv, List.getElem?_toArray, List.getElem?_cons_zero, List.getElem?_cons_succ] at y0 y1 y2 y3 y4 y5 y6 y7 y8 y9
            clear F C
            go_wp2_with fail
            refine bodyPost_ret (v := .tuple #[.agg (rpV zeroRp zv zv), .int .i64 12]) (by simp [results, Try.results58, go_sem, rpV, zeroRp, zeroNd, zv, y0, y1, y2, y3, y4, y5, y6, y7, y8, y9]) rfl ⟨⟨zv, zv, by rw [HD2.out]; rfl, by rw [HD2.out]; exact Own.nil _ _, by rw [HD2.out]; exact OwnS.nil _ _⟩, ?_⟩
            exact ((((((((((HI.out.ext.setCell (Nat.le_refl _) _).setCell (Nat.le_refl _) _).setCell (Nat.le_refl _) _).setCell (Nat.le_refl _) _).setCell (Nat.le_refl _) _).setCell (Nat.le_refl _) _).setCell (Nat.le_refl _) _).setCell (Nat.le_refl _) _).setCell (Nat.le_refl _) _).setCell (Nat.le_refl _) _).1
          | some m =>
            have HOKm := HOK2.out m rfl
            have HZ0 := Lib.hid (fun w => rzero_any m w)
            have hzf : decide m.isZero = false := decide_eq_false (fun hz => by
              rw [(Nd.isZero_iff _).1 hz] at HOKm
              exact absurd HOKm (by decide))
            rw [hzf] at HZ0
            have HC8 := Lib.hid (show Calls Try.prog 77 #[.slice a8 S7.1.length k8] w8 fun e w' => e = .returned (.tuple #[.agg #[.int .i64 m.id, .int .i64 m.kind, .int .i64 m.links, .int .i64 m.size, .int .u64 (m.til : Int), .bool m.closed], .int .i64 0]) ∧ Below w8.heap.size w8 w' from HC8.out)
            unfold Nd.cells at HZ0
            clear HOKm hzf HOK2
            go_wp2_with fail
            refine HC8.out.mono ?_
            rintro e w9 ⟨rfl, hb9⟩
            have HI := Lib.hid ((HI.out.below hb9).below (Below.alloc (Below.refl _ _) (Nat.le_refl _) (.cells #[.int .i64 m.id, .int .i64 m.kind, .int .i64 m.links, .int .i64 m.size, .int .u64 (m.til : Int), .bool m.closed] 43)))
            have hnX := heap_alloc_new w9 (.cells #[.int .i64 m.id, .int .i64 m.kind, .int .i64 m.links, .int .i64 m.size, .int .u64 (m.til : Int), .bool m.closed] 43)
            clear hb9 HC8 hB8
            go_upto_region 9 with fail
            generalize w9.alloc _ = w10 at *
            generalize w9.heap.size = X at *
            have HX := Lib.hid hnX
            obtain ⟨⟨n0, n1, n2, n3, n4, n5⟩, _⟩ := six_cells hnX
            clear hnX
            go_wp2_with fail
            refine (HZ0.out _).mono ?_
            rintro e w11 ⟨rfl, hb11⟩
            have hI11 := HI.out.below hb11
            obtain ⟨⟨m0, m1, m2, m3, m4, m5⟩, _⟩ := six_cells ((hb11.block X (lt_of_heap HX.out)).trans HX.out)
            have F := frozen_at hI11.o
            have f4 := F 4; have f5 := F 5; have f6 := F 6; have f7 := F 7; have f8 := F 8; have f9 := F 9
            have C := cells_at hI11.o
            have c4 := C 4; have c5 := C 5; have c6 := C 6; have c7 := C 7; have c8 := C 8; have c9 := C 9
            simp only [rpV, zeroNd, List.getElem?_toArray, List.getElem?_cons_zero, List.getElem?_cons_succ] at c4 c5 c6 c7 c8 c9
            have HI12 := Lib.hid (hI11.setNode m)
            clear n0 n1 n2 n3 n4 n5 HZ0 HX hb11 HI hI11 F C
            go_wp2_with fail
            go_meet
            exact ⟨m, rfl, HI12.out⟩
      case rest =>
        obtain ⟨m, hm, hI⟩ := hcut
        rw [hm] at HO1 HD
        simp only [Option.isSome_some, Option.getD_some] at HO1 HD
        have HI := Lib.hid hI
        clear hI7 hI hm HN
        have hd3 : x3.length = dlen := by
          obtain ⟨a, c, e, _⟩ := HI.out.dat.bs
          injection e with _ e _
          exact e.symm
        have HB3 : Bs wc a4 dlen k4 x3 := by
          obtain ⟨a, c, e, hb⟩ := HI.out.dat.bs
          injection e with e1 e2 e3
          subst e1 e3
          rw [hd3] at hb
          exact hb
        obtain ⟨na, nc, rfl, hS⟩ := HI.out.nam.ss (n := NL) hNL
        have HE := Lib.hid (rrpenc_any x1 x2 a4 dlen k4 x3 na NL nc x5 m wc HB3 hS)
        unfold rpCells at HE
        clear HB3 hS hd3
        have c := cells_at HI.out.o
        have c0 := c 0; have c1 := c 1; have c2 := c 2; have c3 := c 3; have c4 := c 4; have c5 := c 5; have c6 := c 6; have c7 := c 7; have c8 := c 8; have c9 := c 9
        simp only [rpV, List.getElem?_toArray, List.getElem?_cons_zero, List.getElem?_cons_succ] at c0 c1 c2 c3 c4 c5 c6 c7 c8 c9
        clear c
        go_wp2_with fail
        refine HE.out.mono ?_
        rintro e w12 ⟨v12, rfl, _, hb12⟩
        have HI := Lib.hid (HI.out.below hb12)
        have HEND := Lib.hid (rref_end q q xs S7.2 w12 HI.out.rd)
        clear c0 c1 c2 c3 c4 c5 c6 c7 c8 c9 HE hb12
        by_cases hen : rdEnd S7.2 = 0
        · rw [hen] at HEND
          have HEND := Lib.hid (show Calls Try.prog 69 #[.pointer (some ⟨q, 0, none⟩)] w12 fun e w' => e = .returned (.int .i64 0) ∧ Below w12.heap.size w12 w' from HEND.out)
          by_cases hfi : ro.Fine
          · have HD2 := Lib.hid (HD.out.trans (if_pos (by simp only [hfi]; exact ⟨trivial, hen, trivial⟩)))
            have e9 : (rpEnc ⟨x1, x2, x3, x5, m⟩).2 = 0 := by
              rw [← HO1.out]; unfold rpEnc; rw [if_pos hfi]
            rw [e9, show ((0 : Nat) : Int) = 0 from rfl]
            clear e9 hfi hen
            go_wp2_with fail
            refine HEND.out.mono ?_
            rintro e w13 ⟨rfl, hb13⟩
            have HI := Lib.hid (HI.out.below hb13)
            clear hb13 HEND
            have F := frozen_at HI.out.z
            have z0 := F 0; have z1 := F 1; have z2 := F 2; have z3 := F 3; have z4 := F 4; have z5 := F 5; have z6 := F 6; have z7 := F 7; have z8 := F 8; have z9 := F 9
            have C := cells_at HI.out.z
            have y0 := C 0; have y1 := C 1; have y2 := C 2; have y3 := C 3; have y4 := C 4; have y5 := C 5; have y6 := C 6; have y7 := C 7; have y8 := C 8; have y9 := C 9
            simp only [rpV, zeroRp, zeroNd, zv, List.getElem?_toArray, List.getElem?_cons_zero, List.getElem?_cons_succ] at y0 y1 y2 y3 y4 y5 y6 y7 y8 y9
            clear F C
            have c := cells_at HI.out.o
            have c0 := c 0; have c1 := c 1; have c2 := c 2; have c3 := c 3; have c4 := c 4; have c5 := c 5; have c6 := c 6; have c7 := c 7; have c8 := c 8; have c9 := c 9
            simp only [rpV, List.getElem?_toArray, List.getElem?_cons_zero, List.getElem?_cons_succ] at c0 c1 c2 c3 c4 c5 c6 c7 c8 c9
            clear c
            have HBN := Lib.hid (show (∀ b, (Value.slice a4 dlen k4).ownBlock = some b → b ≠ H) ∧ (∀ b, (Value.slice na NL nc).ownBlock = some b → b ≠ H) from
              ⟨fun b hb => by have := HI.out.dO b hb; have := HI.out.qH; omega, fun b hb => by have := HI.out.nO b hb; have := HI.out.qH; have := HI.out.qO; omega⟩)
            go_wp2_with fail
            refine bodyPost_ret (v := .tuple #[.agg (rpV ⟨x1, x2, x3, x5, m⟩ (.slice a4 dlen k4) (.slice na NL nc)), .int .i64 0]) (by simp [results, Try.results58, go_sem, rpV, y0, y1, y2, y3, y4, y5, y6, y7, y8, y9]) rfl ⟨⟨.slice a4 dlen k4, .slice na NL nc, by rw [HD2.out, HO1.out]; rfl, ?_, ?_⟩, ?_⟩
            · rw [HD2.out, HO1.out]
              exact ((((((((((HI.out.dat.setOther HBN.out.1 _).setOther HBN.out.1 _).setOther HBN.out.1 _).setOther HBN.out.1 _).setOther HBN.out.1 _).setOther HBN.out.1 _).setOther HBN.out.1 _).setOther HBN.out.1 _).setOther HBN.out.1 _).setOther HBN.out.1 _)
            · rw [HD2.out, HO1.out]
              exact ((((((((((HI.out.nam.setOther HBN.out.2 _).setOther HBN.out.2 _).setOther HBN.out.2 _).setOther HBN.out.2 _).setOther HBN.out.2 _).setOther HBN.out.2 _).setOther HBN.out.2 _).setOther HBN.out.2 _).setOther HBN.out.2 _).setOther HBN.out.2 _)
            · exact ((((((((((HI.out.ext.setCell (Nat.le_refl _) _).setCell (Nat.le_refl _) _).setCell (Nat.le_refl _) _).setCell (Nat.le_refl _) _).setCell (Nat.le_refl _) _).setCell (Nat.le_refl _) _).setCell (Nat.le_refl _) _).setCell (Nat.le_refl _) _).setCell (Nat.le_refl _) _).setCell (Nat.le_refl _) _).1
          · have HD2 := Lib.hid (HD.out.trans (if_neg (fun h => hfi h.2.2)))
            have e9 : (rpEnc ⟨x1, x2, x3, x5, m⟩).2 = 12 := by
              rw [← HO1.out]; unfold rpEnc; rw [if_neg hfi]
            rw [e9, show ((12 : Nat) : Int) = 12 from rfl]
            clear e9 hfi hen
            go_wp2_with fail
            refine HEND.out.mono ?_
            rintro e w13 ⟨rfl, hb13⟩
            have HI := Lib.hid (HI.out.below hb13)
            clear hb13 HEND
            have F := frozen_at HI.out.z
            have z0 := F 0; have z1 := F 1; have z2 := F 2; have z3 := F 3; have z4 := F 4; have z5 := F 5; have z6 := F 6; have z7 := F 7; have z8 := F 8; have z9 := F 9
            have C := cells_at HI.out.z
            have y0 := C 0; have y1 := C 1; have y2 := C 2; have y3 := C 3; have y4 := C 4; have y5 := C 5; have y6 := C 6; have y7 := C 7; have y8 := C 8; have y9 := C 9
            simp only [rpV, zeroRp, zeroNd, zv, List.getElem?_toArray, List.getElem?_cons_zero, List.getElem?_cons_succ] at y0 y1 y2 y3 y4 y5 y6 y7 y8 y9
            clear F C
            go_wp2_with fail
            refine bodyPost_ret (v := .tuple #[.agg (rpV zeroRp zv zv), .int .i64 12]) (by simp [results, Try.results58, go_sem, rpV, zeroRp, zeroNd, zv, y0, y1, y2, y3, y4, y5, y6, y7, y8, y9]) rfl ⟨⟨zv, zv, by rw [HD2.out]; rfl, by rw [HD2.out]; exact Own.nil _ _, by rw [HD2.out]; exact OwnS.nil _ _⟩, ?_⟩
            exact ((((((((((HI.out.ext.setCell (Nat.le_refl _) _).setCell (Nat.le_refl _) _).setCell (Nat.le_refl _) _).setCell (Nat.le_refl _) _).setCell (Nat.le_refl _) _).setCell (Nat.le_refl _) _).setCell (Nat.le_refl _) _).setCell (Nat.le_refl _) _).setCell (Nat.le_refl _) _).setCell (Nat.le_refl _) _).1
        · have HD2 := Lib.hid (HD.out.trans (if_neg (fun h => hen h.2.1)))
          have h1 : ((rdEnd S7.2 : Nat) : Int) ≠ 0 := by omega
          have h2 : (((rdEnd S7.2 : Nat) : Int) != 0) = true := by rw [bne_iff_ne]; exact h1
          generalize rdEnd S7.2 = en at h2 HEND
          clear hen h1
          go_wp2_with fail
          refine HEND.out.mono ?_
          rintro e w13 ⟨rfl, hb13⟩
          have HI := Lib.hid (HI.out.below hb13)
          clear hb13 HEND
          have F := frozen_at HI.out.z
          have z0 := F 0; have z1 := F 1; have z2 := F 2; have z3 := F 3; have z4 := F 4; have z5 := F 5; have z6 := F 6; have z7 := F 7; have z8 := F 8; have z9 := F 9
          have C := cells_at HI.out.z
          have y0 := C 0; have y1 := C 1; have y2 := C 2; have y3 := C 3; have y4 := C 4; have y5 := C 5; have y6 := C 6; have y7 := C 7; have y8 := C 8; have y9 := C 9
          simp only [rpV, zeroRp, zeroNd, zv, List.getElem?_toArray, List.getElem?_cons_zero, List.getElem?_cons_succ] at y0 y1 y2 y3 y4 y5 y6 y7 y8 y9
          clear F C
          go_wp2_with fail
          refine bodyPost_ret (v := .tuple #[.agg (rpV zeroRp zv zv), .int .i64 12]) (by simp [results, Try.results58, go_sem, rpV, zeroRp, zeroNd, zv, y0, y1, y2, y3, y4, y5, y6, y7, y8, y9]) rfl ⟨⟨zv, zv, by rw [HD2.out]; rfl, by rw [HD2.out]; exact Own.nil _ _, by rw [HD2.out]; exact OwnS.nil _ _⟩, ?_⟩
          exact ((((((((((HI.out.ext.setCell (Nat.le_refl _) _).setCell (Nat.le_refl _) _).setCell (Nat.le_refl _) _).setCell (Nat.le_refl _) _).setCell (Nat.le_refl _) _).setCell (Nat.le_refl _) _).setCell (Nat.le_refl _) _).setCell (Nat.le_refl _) _).setCell (Nat.le_refl _) _).setCell (Nat.le_refl _) _).1
end Go.Proofs.Ytphjdlckoddgmaa
