/- The contract of op.DecodeReply. -/
import Derived.Test.YtphjdlckoddgmaaRpI
import Derived.Test.YtphjdlckoddgmaaHeldB
import Derived.Deep.DeepCutAuto
namespace Go.Proofs.Ytphjdlckoddgmaa
open Go.RowKit

set_option maxHeartbeats 8000000 in
set_option maxRecDepth 100000 in
theorem oprdec_any (ad : Option Addr) (len cap : Nat) (xs : List UInt8) (w : World) (h : Bs w ad len cap xs) (hl : len ≤ big) :
    Calls Try.prog 26 #[.slice ad len cap] w fun e w' => RpPost xs w.heap.size e w' ∧ Below w.heap.size w w' := by
  have hxl := h.1
  unfold RpPost
  have hD : rpDec xs = if (rpNode xs).isSome ∧ rdEnd (rpS7 xs).2 = 0 ∧ (rpOf xs).Fine then (rpOf xs, 0) else (zeroRp, 12) := rfl
  have HD := Lib.hid hD
  clear hD
  generalize rpDec xs = D at *
  have l1 : (rpS1 xs).2.1.length ≤ len := Nat.le_trans (rdRaw_left (xs, 0) 1) (Nat.le_of_eq hxl)
  have l2 : (rpS2 xs).2.1.length ≤ (rpS1 xs).2.1.length := rdRaw_left _ 2
  have l3 : (rpS3 xs).2.1.length ≤ (rpS2 xs).2.1.length := Nat.le_trans (rdRaw_left _ _) (rdRaw_left _ 2)
  have l4 : (rpS4 xs).2.1.length ≤ (rpS3 xs).2.1.length := rdRaw_left _ 1
  have hn4 : (rpS4 xs).1 < 256 := rdByte_lt _
  have hz := heap_alloc_new w (.cells (rpV zeroRp zv zv) 45)
  have hE0 := (Ext.refl w).alloc (.cells (rpV zeroRp zv zv) 45)
  have h0 := h.alloc (.cells (rpV zeroRp zv zv) 45)
  have HV : ∃ V, V = rpV zeroRp zv zv := ⟨_, rfl⟩
  obtain ⟨H, hH⟩ : ∃ H, H = w.heap.size := ⟨_, rfl⟩
  rw [← hH] at hz hE0 ⊢
  have HH := Lib.hid hH
  clear h HV
  unfold rpV zeroRp zeroNd zv at hz hE0 h0
  simp only at hz hE0 h0
  go_enter Try.func26, Try.ntmps26
  go_upto_region 1 with fail
  rw [← hH]
  clear hH
  generalize w.alloc _ = w0 at *
  go_wp2_with fail
  refine (rnew_lt ad len cap xs w0 h0 hl).mono ?_
  rintro e w1 ⟨q, rb, rfl, hR1, hb1, hrb⟩
  have hE1 := hE0.step hb1
  have hz1 := (hb1.block H (lt_of_heap hz)).trans hz
  have hHq : H < q := Nat.lt_of_lt_of_le (lt_of_heap hz) hR1.1
  clear hz hE0 h0 hb1
  generalize w0.heap.size = P at *
  have C1 := rbyte_any P q rb (xs, 0) w1 hR1 (by rw [hxl]; exact hl)
  change Calls _ _ _ _ (fun e w' => e = .returned (.int .i64 ((rpS1 xs).1 : Nat)) ∧ RPost w1 P q rb (rpS1 xs).2 w') at C1
  have HC1 := Lib.hid C1
  clear C1
  go_wp2_with fail
  refine HC1.out.mono ?_
  rintro e w2 ⟨rfl, hP2⟩
  have C2 := rshort_any P q rb (rpS1 xs).2 w2 hP2.1 (by omega)
  change Calls _ _ _ _ (fun e w' => e = .returned (.int .i64 ((rpS2 xs).1 : Nat)) ∧ RPost w2 P q rb (rpS2 xs).2 w') at C2
  have HC2 := Lib.hid C2
  have hc2 := hP2.2
  have hrb2 : ∀ k, rb = some k → k < w2.heap.size := fun k hk => Nat.lt_of_lt_of_le (hrb k hk) hc2.size
  have hE2 := hE1.to (hc2.below hE1.2 (fun _ _ hk => by subst hk; exact Nat.le_of_lt hHq))
  have hz2 := (hc2.block H (lt_of_heap hz1) (Nat.ne_of_lt hHq)).trans hz1
  clear C2 HC1 hP2 hR1 hE1 hz1 hrb
  go_wp2_with fail
  refine HC2.out.mono ?_
  rintro e w3 ⟨rfl, hP3⟩
  have C3 := rbytes_any P q rb (rpS2 xs).2 w3 hP3.1 (by omega)
  change Calls _ _ _ _ (fun e w' => ∃ v, e = .returned v ∧ Own w' w3.heap.size v (rpS3 xs).1 ∧ RPost w3 P q rb (rpS3 xs).2 w') at C3
  have HC3 := Lib.hid C3
  have hc3 := hP3.2
  have hrb3 : ∀ k, rb = some k → k < w3.heap.size := fun k hk => Nat.lt_of_lt_of_le (hrb2 k hk) hc3.size
  have hE3 := hE2.to (hc3.below hE2.2 (fun _ _ hk => by subst hk; exact Nat.le_of_lt hHq))
  have hz3 := (hc3.block H (lt_of_heap hz2) (Nat.ne_of_lt hHq)).trans hz2
  have hq3 := Rd.lt hP3.1
  clear C3 HC2 hP3 hE2 hz2 hrb2
  go_wp2_with fail
  refine HC3.out.mono ?_
  rintro e w4 ⟨dv, rfl, ho4, hP4⟩
  have hc4 := hP4.2
  have hrb4 : ∀ k, rb = some k → k < w4.heap.size := fun k hk => Nat.lt_of_lt_of_le (hrb3 k hk) hc4.size
  have hE4 := hE3.to (hc4.below hE3.2 (fun _ _ hk => by subst hk; exact Nat.le_of_lt hHq))
  have hz4 := (hc4.block H (lt_of_heap hz3) (Nat.ne_of_lt hHq)).trans hz3
  have hR4 := hP4.1
  have hd4 : ∀ k, dv.ownBlock = some k → q < k ∧ k < w4.heap.size := fun k hk => by
    rcases ho4.parts with ⟨rfl, h2⟩ | ⟨g, c, rfl, hB, hr⟩
    · cases hk
    · simp [Value.ownBlock] at hk
      subst hk
      exact ⟨Nat.lt_of_lt_of_le hq3 hB, hr.lt⟩
  have ho4 := ho4.base hE3.2
  clear HC3 hP4 hE3 hz3 hrb3
  obtain ⟨a4, k4, rfl, hB4⟩ := ho4.bs
  go_upto_region 3 with fail
  obtain ⟨O, hO⟩ : ∃ O, O = w4.heap.size := ⟨_, rfl⟩
  have hz5 := (Below.heap_alloc w4 (.cells (rpV ⟨(rpS1 xs).1, (rpS2 xs).1, (rpS3 xs).1, [], zeroNd⟩ (.slice a4 (rpS3 xs).1.length k4) zv) 45) _ (lt_of_heap hz4)).trans hz4
  have ho5 := heap_alloc_new w4 (.cells (rpV ⟨(rpS1 xs).1, (rpS2 xs).1, (rpS3 xs).1, [], zeroNd⟩ (.slice a4 (rpS3 xs).1.length k4) zv) 45)
  have hE5 := hE4.alloc (.cells (rpV ⟨(rpS1 xs).1, (rpS2 xs).1, (rpS3 xs).1, [], zeroNd⟩ (.slice a4 (rpS3 xs).1.length k4) zv) 45)
  have hR5 := hR4.below (Below.alloc (Below.refl _ _) (Nat.le_refl _) (.cells (rpV ⟨(rpS1 xs).1, (rpS2 xs).1, (rpS3 xs).1, [], zeroNd⟩ (.slice a4 (rpS3 xs).1.length k4) zv) 45))
  have hd5 := ho4.alloc (.cells (rpV ⟨(rpS1 xs).1, (rpS2 xs).1, (rpS3 xs).1, [], zeroNd⟩ (.slice a4 (rpS3 xs).1.length k4) zv) 45)
  have hq4 := Rd.lt hR4
  rw [← hO] at ho5 hrb4 hd4 hq4 ⊢
  have hfar : ∀ W W' T, O < W.heap.size → Chg (fun k => O ≤ k) W W' → RdR P q rb W T → RdR P q rb W' T := fun W W' T _ hc hr => Rd.chg hr hc (fun k hk => by
    rcases hk with hk | hk
    · subst hk; omega
    · have := hrb4 k hk; omega)
  have hI5 : RpI (RdR P q rb) w H q O ⟨(rpS1 xs).1, (rpS2 xs).1, (rpS3 xs).1, [], zeroNd⟩ (.slice a4 (rpS3 xs).1.length k4) zv (rpS3 xs).2 (w4.alloc (.cells (rpV ⟨(rpS1 xs).1, (rpS2 xs).1, (rpS3 xs).1, [], zeroNd⟩ (.slice a4 (rpS3 xs).1.length k4) zv) 45)) :=
    ⟨hE5, hR5, by omega, ho5, hz5, hHq, hq4, hd5, hd4, OwnS.nil _ _, (fun k hk => by cases hk), hfar⟩
  have e5 : Obj.cells (rpV ⟨(rpS1 xs).1, (rpS2 xs).1, (rpS3 xs).1, [], zeroNd⟩ (.slice a4 (rpS3 xs).1.length k4) zv) 45 = Obj.cells #[.int .i64 ((rpS1 xs).1 : Nat), .int .i64 ((rpS2 xs).1 : Nat), .slice a4 (rpS3 xs).1.length k4, .slice none 0 0, .int .i64 0, .int .i64 0, .int .i64 0, .int .i64 0, .int .u64 0, .bool false] 45 := rfl
  rw [e5] at hI5
  clear e5 hz5 ho5 hE5 hR5 hd5 hq4 hfar hO ho4 hB4 hd4 hR4 hz4 hE4 hrb4 hc4 hc3 hc2
  generalize w4.alloc _ = w5 at *
  have C4 := rbyte_any P q rb (rpS3 xs).2 w5 hI5.rd hI5.len
  change Calls _ _ _ _ (fun e w' => e = .returned (.int .i64 ((rpS4 xs).1 : Nat)) ∧ RPost w5 P q rb (rpS4 xs).2 w') at C4
  have HC4 := Lib.hid C4
  clear C4
  go_wp2_with fail
  refine HC4.out.mono ?_
  rintro e w6 ⟨rfl, hP6⟩
  have hI6 := hI5.read hP6.1 hP6.2 l4
  clear hI5 HC4 hP6
  have h5l : rpS5 xs = rdNames (rpS4 xs).1 (rpS4 xs).2 := rfl
  have H5 := Lib.hid h5l
  clear h5l
  have HO1 := Lib.hid (show rpOf xs = ⟨(rpS1 xs).1, (rpS2 xs).1, (rpS3 xs).1, (rpS5 xs).1, (rpNode xs).getD zeroNd⟩ from rfl)
  have h6l : rpS6 xs = rdFlag (rpS5 xs).2 := rfl
  have h7l : rpS7 xs = opt (rpS6 xs).1 [] rdBytes (rpS6 xs).2 := rfl
  have hnd : rpNode xs = if (rpS6 xs).1 then ndDec (rpS7 xs).1 else some zeroNd := rfl
  have H6 := Lib.hid h6l
  have H7 := Lib.hid h7l
  have HN := Lib.hid hnd
  clear h6l h7l hnd
  generalize rpOf xs = ro at *
  generalize rpNode xs = nn at *
  generalize rpS7 xs = S7 at *
  generalize rpS6 xs = S6 at *
  generalize rpS5 xs = S5 at *
  generalize rpS4 xs = S4 at *
  generalize (rpS3 xs).1.length = dlen at *
  generalize (rpS3 xs).1 = x3 at *
  generalize (rpS2 xs).1 = x2 at *
  generalize (rpS1 xs).1 = x1 at *
  clear l1 l2 l3 l4
  obtain ⟨n, T4⟩ := S4
  simp only at hn4 H5 hI6 ⊢
  go_wp2_with fail
  go_loopw [18] (fun i wr => ∃ (k : Nat) (nv : Value), k ≤ n ∧ i = .int .i64 (k : Int) ∧ RpI (RdR P q rb) w H q O ⟨x1, x2, x3, (rdNames k T4).1, zeroNd⟩ (.slice a4 dlen k4) nv (rdNames k T4).2 wr) (fun i _ => n - (intOf i).toNat)
  case atStart => exact ⟨0, zv, by omega, rfl, hI6⟩
  case round =>
    obtain ⟨k, nv, hk, rfl, hI⟩ := hrel
    clear hI6
    by_cases hkn : k < n
    · have hk0 : (0 : Int) ≤ (k : Int) := by omega
      have hkl : (k : Int) < (n : Int) := by omega
      have hns := rdNames_succ k T4
      have HNS := Lib.hid hns
      clear hns
      have hlen : (rdNames k T4).1.length = k := rdNames_length _ _
      generalize (rdNames k T4) = NK at *
      obtain ⟨L, TK⟩ := NK
      simp only at hI HNS hlen
      have c3 := hI.o
      have c3 := cells_at c3 3
      simp only [rpV, List.getElem?_toArray, List.getElem?_cons_zero, List.getElem?_cons_succ] at c3
      obtain ⟨na, nc, rfl, hS⟩ := hI.nam.ss hlen
      go_upto_region 5 with fail
      have hId := hI.below ((Below.refl _ _).drew)
      clear hI
      refine heldB_start (fun i => [1, 3, 4, 5].contains i) (fun w' => w'.cell? ⟨O, 3, none⟩ = some (.slice na k nc)) (by kernel_rfl) ?_ (fun hHeld => ?_)
      · go_keep
      refine heldB_free (i := 0) (v := ?_) 20 rfl (by kernel_rfl) (by kernel_rfl) (by kernel_rfl) (by kernel_rfl) (fun _ _ _ h => h) rfl (Or.inl ⟨by rfl, ?_⟩) ?_
      rotate_left
      · intro w hSw; (try dsimp only at hSw); go_simp; (try with_reducible rfl)
      simp only [List.set_cons_zero, List.set_cons_succ]
      refine heldB_free (i := 2) (v := ?_) 22 rfl (by kernel_rfl) (by kernel_rfl) (by kernel_rfl) (by kernel_rfl) (fun _ _ _ h => h) rfl (Or.inl ⟨by rfl, ?_⟩) ?_
      rotate_left
      · intro w hSw; (try dsimp only at hSw); go_simp; (try with_reducible rfl)
      simp only [List.set_cons_zero, List.set_cons_succ]
      refine heldB_take (i := 1) (v := ?_) 21 rfl (by kernel_rfl) (by kernel_rfl) (by kernel_rfl) (by kernel_rfl) (fun _ _ _ h => h) rfl (by assumption) (Or.inl ⟨by rfl, ?_⟩) ?_
      rotate_left
      · intro w hSw; (try dsimp only at hSw); go_simp; (try with_reducible rfl)
      simp only [List.set_cons_zero, List.set_cons_succ]
      refine heldB_one 3 (by kernel_rfl) rfl (fun K hK => ?_)
      go_simp
      refine (rbytes_any P q rb TK _ hId.rd hId.len).mono ?_
      rintro e w7 ⟨v7, rfl, ho7, hP7⟩
      have hI7 := hId.read hP7.1 hP7.2 (Nat.le_trans (rdRaw_left _ _) (rdRaw_left TK 2))
      have c7 := cells_at hI7.o 3
      simp only [rpV, List.getElem?_toArray, List.getElem?_cons_zero, List.getElem?_cons_succ] at c7
      obtain ⟨a7, k7, rfl, hB7⟩ := ho7.bs
      clear hId hHeld ho7 hP7 c3 hS
      go_wp2_with fail
      refine hK.out _ _ (fun _ => c7) ?_
      clear hK K
      refine heldB_one 4 (by kernel_rfl) rfl (fun K hK => ?_)
      have s1 := run_string hB7
      go_simp
      refine hK.out _ _ (fun _ => c7) ?_
      clear hK K s1 hB7
      generalize (rdBytes TK).1 = x at *
      generalize x.length = xl at *
      refine heldB_one 5 (by kernel_rfl) rfl (fun K hK => ?_)
      go_simp
      have hbl : Below w7.heap.size w7 (w7.alloc (.cells #[.string (strOf x)] TST)) := Below.alloc (Below.refl _ _) (Nat.le_refl _) _
      have c8 := (hbl.cell (p := ⟨O, 3, none⟩) hI7.lt).trans c7
      refine hK.out _ _ (fun _ => c8) ?_
      clear hK K hbl
      refine heldB_one 6 (by kernel_rfl) rfl (fun K hK => ?_)
      have hnb : L.length + 1 ≤ 1000000 := by omega
      refine step_append_str rfl (.tmp 21) (.tmp 25) rfl rfl H (.slice na k nc) L rfl hI7.nam x hnb hI7.ext.2 (fun v9 w9 h9 hg9 ho9 => ?_)
      have hI9 := hI7.name x h9 hg9 ho9
      have hc9 : Chg (fun k => O < k) w7 w9 := ((Chg.refl (fun k => O < k) w7).alloc _).grown hg9 (fun k _ hk => hI7.nO k hk)
      have hh9 := (hc9.block O hI7.lt (Nat.lt_irrefl O)).trans hI7.o
      have f9 := frozen_at hh9 3
      have c9 := cells_at hh9 3
      simp only [rpV, List.getElem?_toArray, List.getElem?_cons_zero, List.getElem?_cons_succ] at c9
      obtain ⟨na9, nc9, rfl, _⟩ := h9.ss (n := k + 1) (by simp [hlen])
      clear hc9 hh9 h9 hg9 ho9 c8 hI7
      go_simp
      refine hK.out _ _ (fun h => by simp at h) ?_
      clear hK K
      refine heldB_one 7 (by kernel_rfl) rfl (fun K hK => ?_)
      go_simp
      refine hK.out _ _ (fun h => by simp at h) ?_
      clear hK K
      refine heldB_one 8 (by kernel_rfl) rfl (fun K hK => ?_)
      go_simp
      refine hK.out _ _ (fun h => by simp at h) ?_
      clear hK K c9 f9
      refine heldB_done (by kernel_rfl) ?_ _
      go_wp2_with fail
      go_roundw
      case rel => exact ⟨k + 1, _, by omega, by go_num, by rw [HNS.out]; exact hI9⟩
      case measure => simp [intOf]; omega
    · obtain rfl : k = n := by omega
      rw [← H5.out] at hI
      have HS := Lib.hid (hI.nam.ss rfl)
      obtain ⟨x5, T5⟩ := S5
      simp only at hI H6 HO1
      have C6 := rflag_any P q rb T5 wr hI.rd hI.len
      rw [← H6.out] at C6
      have HC6 := Lib.hid C6
      clear C6 H5
      go_wp2_with fail
      refine HC6.out.mono ?_
      rintro e w7 ⟨rfl, hP7⟩
      have hI7 := hI.read hP7.1 hP7.2 (by rw [H6.out]; exact rdFlag_less T5)
      clear hI HC6 hP7
      obtain ⟨f, T6⟩ := S6
      simp only at hI7 H7 HN ⊢
      go_upto_if 30 with fail
      go_cut [6] (fun s wx => s = .int .i64 (if nn.isSome then 0 else 12) ∧ RpI (RdR P q rb) w H q O ⟨x1, x2, x3, x5, nn.getD zeroNd⟩ (.slice a4 dlen k4) nv S7.2 wx)
      case first =>
        cases f
        · have e7 : S7 = ([], T6) := H7.out.trans (opt_false _ _ _)
          have en : nn = some zeroNd := HN.out.trans (if_neg (by decide))
          subst e7 en
          have HI := Lib.hid hI7
          clear hI7
          go_wp2_with fail
          go_meet
          exact ⟨rfl, HI.out⟩
        · have e7 : S7 = rdBytes T6 := H7.out.trans (opt_true _ _ _)
          have en : nn = ndDec S7.1 := HN.out.trans (if_pos rfl)
          have C7 := rbytes_any P q rb T6 w7 hI7.rd hI7.len
          rw [← e7] at C7
          have HC7 := Lib.hid C7
          have H7l := Lib.hid (show S7.2.1.length ≤ T6.1.length from by rw [e7]; exact rdBytes_less T6)
          have HEN := Lib.hid en
          have H71 : S7.1.length ≤ big := by rw [e7]; exact Nat.le_trans (rdBytes_within T6) hI7.len
          clear C7 e7 en H7 HN
          go_wp2_with fail
          refine HC7.out.mono ?_
          rintro e w8 ⟨v8, rfl, ho8, hP8⟩
          have hI8 := hI7.read hP8.1 hP8.2 H7l.out
          obtain ⟨a8, k8, rfl, hB8⟩ := ho8.bs
          have C8 := ndec_any a8 S7.1.length k8 S7.1 w8 hB8 H71
          rw [← HEN.out] at C8
          have HC8 := Lib.hid C8
          clear hI7 HC7 hP8 ho8 C8
          unfold decV Nd.cells at HC8
          generalize hm : nn.getD zeroNd = m at HC8
          have HM := Lib.hid hm
          generalize hcc : (if nn.isSome then (0 : Int) else 12) = cc at HC8
          have HCC := Lib.hid hcc
          clear hm hcc
          go_wp2_with fail
          refine HC8.out.mono ?_
          rintro e w9 ⟨rfl, hb9⟩
          have hI9 := hI8.below hb9
          have F := frozen_at hI9.o
          have f4 := F 4; have f5 := F 5; have f6 := F 6; have f7 := F 7; have f8 := F 8; have f9 := F 9
          have C := cells_at hI9.o
          have c4 := C 4; have c5 := C 5; have c6 := C 6; have c7 := C 7; have c8 := C 8; have c9 := C 9
          simp only [rpV, zeroNd, List.getElem?_toArray, List.getElem?_cons_zero, List.getElem?_cons_succ] at c4 c5 c6 c7 c8 c9
          have hI10 := hI9.setNode m
          clear hI9 hI8 hb9 HC8 hB8 F C
          go_wp2_with fail
          go_meet
          exact ⟨by rw [HCC.out], by rw [HM.out]; exact hI10⟩
      case rest =>
        obtain ⟨rfl, hI⟩ := hcut
        clear hI7
        have HI := Lib.hid hI
        cases nn with
        | none =>
          have HD2 := Lib.hid (HD.out.trans (if_neg (fun h => by simp at h)))
          simp only [Option.isSome_none, Bool.false_eq_true, if_false]
          have F := frozen_at hI.z
          have z0 := F 0; have z1 := F 1; have z2 := F 2; have z3 := F 3; have z4 := F 4; have z5 := F 5; have z6 := F 6; have z7 := F 7; have z8 := F 8; have z9 := F 9
          have C := cells_at hI.z
          have y0 := C 0; have y1 := C 1; have y2 := C 2; have y3 := C 3; have y4 := C 4; have y5 := C 5; have y6 := C 6; have y7 := C 7; have y8 := C 8; have y9 := C 9
          simp only [rpV, zeroRp, zeroNd, zv, List.getElem?_toArray, List.getElem?_cons_zero, List.getElem?_cons_succ] at y0 y1 y2 y3 y4 y5 y6 y7 y8 y9
          clear F C
          clear hI
          go_wp2_with fail
          refine bodyPost_ret (v := .tuple #[.agg (rpV zeroRp zv zv), .int .i64 12]) (by simp [results, Try.results26, go_sem, rpV, zeroRp, zeroNd, zv, y0, y1, y2, y3, y4, y5, y6, y7, y8, y9]) rfl ⟨⟨zv, zv, by rw [HD2.out]; rfl, by rw [HD2.out]; exact Own.nil _ _, by rw [HD2.out]; exact OwnS.nil _ _⟩, ?_⟩
          exact ((((((((((HI.out.ext.setCell (Nat.le_refl _) _).setCell (Nat.le_refl _) _).setCell (Nat.le_refl _) _).setCell (Nat.le_refl _) _).setCell (Nat.le_refl _) _).setCell (Nat.le_refl _) _).setCell (Nat.le_refl _) _).setCell (Nat.le_refl _) _).setCell (Nat.le_refl _) _).setCell (Nat.le_refl _) _).1
        | some m =>
          simp only [Option.isSome_some, if_true, Option.getD_some] at hI HO1 HD ⊢
          have C9 := rend_any P q rb S7.2 wc hI.rd
          have HC9 := Lib.hid C9
          clear C9
          by_cases hen : rdEnd S7.2 = 0
          · have HC9 := Lib.hid (by have := HC9.out; rw [hen] at this; exact this)
            have hd3 : x3.length = dlen := by
              obtain ⟨a, c, e, _⟩ := hI.dat.bs
              injection e with _ e _
              exact e.symm
            obtain ⟨na, nc, rfl, _⟩ := HS.out
            obtain ⟨na', nc', e1, hS⟩ := hI.nam.ss rfl
            injection e1 with e1 _ e3
            subst e1 e3
            have HF := Lib.hid (fine_any x1 x2 a4 k4 x3 na x5.length nc x5 m dlen hd3 wc hS)
            have e9 : decide (Rp.Fine ⟨x1, x2, x3, x5, m⟩) = decide ro.Fine := by rw [HO1.out]
            rw [e9] at HF
            unfold rpCells at HF
            have c := cells_at hI.o
            have c0 := c 0; have c1 := c 1; have c2 := c 2; have c3 := c 3; have c4 := c 4; have c5 := c 5; have c6 := c 6; have c7 := c 7; have c8 := c 8; have c9 := c 9
            simp only [rpV, List.getElem?_toArray, List.getElem?_cons_zero, List.getElem?_cons_succ] at c0 c1 c2 c3 c4 c5 c6 c7 c8 c9
            clear c hS hI hd3 e9
            go_wp2_with fail
            refine HC9.out.mono ?_
            rintro e w9 ⟨rfl, rfl⟩
            go_wp2_with fail
            refine HF.out.mono ?_
            rintro e w9 ⟨rfl, hb9⟩
            have HI9 := Lib.hid (HI.out.below hb9)
            clear c0 c1 c2 c3 c4 c5 c6 c7 c8 c9
            have F := frozen_at HI9.out.z
            have z0 := F 0; have z1 := F 1; have z2 := F 2; have z3 := F 3; have z4 := F 4; have z5 := F 5; have z6 := F 6; have z7 := F 7; have z8 := F 8; have z9 := F 9
            have C := cells_at HI9.out.z
            have y0 := C 0; have y1 := C 1; have y2 := C 2; have y3 := C 3; have y4 := C 4; have y5 := C 5; have y6 := C 6; have y7 := C 7; have y8 := C 8; have y9 := C 9
            simp only [rpV, zeroRp, zeroNd, zv, List.getElem?_toArray, List.getElem?_cons_zero, List.getElem?_cons_succ] at y0 y1 y2 y3 y4 y5 y6 y7 y8 y9
            have c := cells_at HI9.out.o
            have c0 := c 0; have c1 := c 1; have c2 := c 2; have c3 := c 3; have c4 := c 4; have c5 := c 5; have c6 := c 6; have c7 := c 7; have c8 := c 8; have c9 := c 9
            simp only [rpV, List.getElem?_toArray, List.getElem?_cons_zero, List.getElem?_cons_succ] at c0 c1 c2 c3 c4 c5 c6 c7 c8 c9
            clear F C c hb9 HF HC9
            by_cases hfi : ro.Fine
            · have HD2 := Lib.hid (HD.out.trans (if_pos (by simp only [hfi]; exact ⟨trivial, hen, trivial⟩)))
              rw [decide_eq_true hfi]
              clear hfi hen
              have HBN := Lib.hid (show (∀ b, (Value.slice a4 dlen k4).ownBlock = some b → b ≠ H) ∧ (∀ b, (Value.slice na x5.length nc).ownBlock = some b → b ≠ H) from
                ⟨fun b hb => by have := HI9.out.dO b hb; have := HI9.out.qH; omega, fun b hb => by have := HI9.out.nO b hb; have := HI9.out.qH; have := HI9.out.qO; omega⟩)
              go_wp2_with fail
              refine bodyPost_ret (v := .tuple #[.agg (rpV ⟨x1, x2, x3, x5, m⟩ (.slice a4 dlen k4) (.slice na x5.length nc)), .int .i64 0]) (by simp [results, Try.results26, go_sem, rpV, y0, y1, y2, y3, y4, y5, y6, y7, y8, y9]) rfl ⟨⟨.slice a4 dlen k4, .slice na x5.length nc, by rw [HD2.out, HO1.out]; rfl, ?_, ?_⟩, ?_⟩
              · rw [HD2.out, HO1.out]
                exact ((((((((((HI9.out.dat.setOther HBN.out.1 _).setOther HBN.out.1 _).setOther HBN.out.1 _).setOther HBN.out.1 _).setOther HBN.out.1 _).setOther HBN.out.1 _).setOther HBN.out.1 _).setOther HBN.out.1 _).setOther HBN.out.1 _).setOther HBN.out.1 _)
              · rw [HD2.out, HO1.out]
                exact ((((((((((HI9.out.nam.setOther HBN.out.2 _).setOther HBN.out.2 _).setOther HBN.out.2 _).setOther HBN.out.2 _).setOther HBN.out.2 _).setOther HBN.out.2 _).setOther HBN.out.2 _).setOther HBN.out.2 _).setOther HBN.out.2 _).setOther HBN.out.2 _)
              · exact (((((((((((HI9.out.ext).setCell (Nat.le_refl _) _).setCell (Nat.le_refl _) _).setCell (Nat.le_refl _) _).setCell (Nat.le_refl _) _).setCell (Nat.le_refl _) _).setCell (Nat.le_refl _) _).setCell (Nat.le_refl _) _).setCell (Nat.le_refl _) _).setCell (Nat.le_refl _) _).setCell (Nat.le_refl _) _).1
            · have HD2 := Lib.hid (HD.out.trans (if_neg (fun h => hfi h.2.2)))
              rw [decide_eq_false hfi]
              clear hfi hen c0 c1 c2 c3 c4 c5 c6 c7 c8 c9
              go_wp2_with fail
              refine bodyPost_ret (v := .tuple #[.agg (rpV zeroRp zv zv), .int .i64 12]) (by simp [results, Try.results26, go_sem, rpV, zeroRp, zeroNd, zv, y0, y1, y2, y3, y4, y5, y6, y7, y8, y9]) rfl ⟨⟨zv, zv, by rw [HD2.out]; rfl, by rw [HD2.out]; exact Own.nil _ _, by rw [HD2.out]; exact OwnS.nil _ _⟩, ?_⟩
              exact (((((((((((HI9.out.ext).setCell (Nat.le_refl _) _).setCell (Nat.le_refl _) _).setCell (Nat.le_refl _) _).setCell (Nat.le_refl _) _).setCell (Nat.le_refl _) _).setCell (Nat.le_refl _) _).setCell (Nat.le_refl _) _).setCell (Nat.le_refl _) _).setCell (Nat.le_refl _) _).setCell (Nat.le_refl _) _).1
          · have HD2 := Lib.hid (HD.out.trans (if_neg (fun h => hen h.2.1)))
            have h1 : ((rdEnd S7.2 : Nat) : Int) ≠ 0 := by omega
            have h2 : (((rdEnd S7.2 : Nat) : Int) != 0) = true := by rw [bne_iff_ne]; exact h1
            generalize rdEnd S7.2 = en at *
            clear hen h1
            go_wp2_with fail
            refine HC9.out.mono ?_
            rintro e w9 ⟨rfl, rfl⟩
            have F := frozen_at HI.out.z
            have z0 := F 0; have z1 := F 1; have z2 := F 2; have z3 := F 3; have z4 := F 4; have z5 := F 5; have z6 := F 6; have z7 := F 7; have z8 := F 8; have z9 := F 9
            have C := cells_at HI.out.z
            have y0 := C 0; have y1 := C 1; have y2 := C 2; have y3 := C 3; have y4 := C 4; have y5 := C 5; have y6 := C 6; have y7 := C 7; have y8 := C 8; have y9 := C 9
            simp only [rpV, zeroRp, zeroNd, zv, List.getElem?_toArray, List.getElem?_cons_zero, List.getElem?_cons_succ] at y0 y1 y2 y3 y4 y5 y6 y7 y8 y9
            clear F C
            clear hI
            go_wp2_with fail
            refine bodyPost_ret (v := .tuple #[.agg (rpV zeroRp zv zv), .int .i64 12]) (by simp [results, Try.results26, go_sem, rpV, zeroRp, zeroNd, zv, y0, y1, y2, y3, y4, y5, y6, y7, y8, y9]) rfl ⟨⟨zv, zv, by rw [HD2.out]; rfl, by rw [HD2.out]; exact Own.nil _ _, by rw [HD2.out]; exact OwnS.nil _ _⟩, ?_⟩
            exact ((((((((((HI.out.ext.setCell (Nat.le_refl _) _).setCell (Nat.le_refl _) _).setCell (Nat.le_refl _) _).setCell (Nat.le_refl _) _).setCell (Nat.le_refl _) _).setCell (Nat.le_refl _) _).setCell (Nat.le_refl _) _).setCell (Nat.le_refl _) _).setCell (Nat.le_refl _) _).setCell (Nat.le_refl _) _).1
end Go.Proofs.Ytphjdlckoddgmaa
