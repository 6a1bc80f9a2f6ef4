/- The contract of permafrostref15.Decode. -/
import Derived.Test.YtphjdlckoddgmaaOpDec
import Derived.Test.YtphjdlckoddgmaaOpRefAny
import Derived.Test.YtphjdlckoddgmaaRef4R
import Derived.Deep.DeepCutAuto
namespace Go.Proofs.Ytphjdlckoddgmaa
open Go.RowKit

/-- the document's reader -/
def RrR (q : Nat) (ys : List UInt8) (W : World) (T : List UInt8 × Nat) : Prop := RR W q q ys T
theorem RrR.set {q O : Nat} {ys : List UInt8} (h : q < O) : ∀ W i v T, RrR q ys W T → RrR q ys (W.setCell ⟨O, i, none⟩ v) T := fun _ _ v _ hr => RR.set hr h v
theorem opEnc_snd (o : Ov) (a : Ask) (ha : asksOf o.kind = some a) : (opEnc o).2 = o.right a := by
  unfold opEnc
  rw [ha]
  simp only
  split
  · rename_i h; exact h.symm
  · rfl

set_option maxHeartbeats 8000000 in
set_option maxRecDepth 100000 in
theorem rdecop_kind (ad : Option Addr) (len cap : Nat) (xs : List UInt8) (w : World) (h : Bs w ad len cap xs) (hl : len ≤ big) (ha : asksOf ((rdByte (xs, 0)).1 : Nat) = none) :
    Calls Try.prog 39 #[.slice ad len cap] w fun e w' => DecPost xs w.heap.size e w' ∧ Below w.heap.size w w' := by
  have hx : opDec xs = (zeroOv, 30) := by unfold opDec; rw [ha]
  unfold DecPost
  rw [hx]
  clear hx
  have hxl := h.1
  generalize hk : (rdByte (xs, 0)).1 = k at *
  have HKK := Lib.hid hk
  have hkk : (k : Int) < 1 ∨ 17 < (k : Int) := by
    rcases (show ((k : Int) < 1 ∨ 17 < (k : Int)) ∨ ¬ ((k : Int) < 1 ∨ 17 < (k : Int)) by omega) with h | h
    · exact h
    · rcases kinds h with e | e | e | e | e | e | e | e | e | e | e | e | e | e | e | e | e <;> rw [e] at ha <;> cases ha
  clear ha hk
  go_enter Try.func39, Try.ntmps39
  go_upto_region 1 with fail
  have h0 := h.alloc (.cells #[.int .i64 0, .string ⟨#[]⟩, .string ⟨#[]⟩, .int .i64 0, .int .i64 0, .int .i64 0, .int .u64 0, .int .i64 0, .slice none 0 0] 25)
  have hz := heap_alloc_new w (.cells #[.int .i64 0, .string ⟨#[]⟩, .string ⟨#[]⟩, .int .i64 0, .int .i64 0, .int .i64 0, .int .u64 0, .int .i64 0, .slice none 0 0] 25)
  have hE0 := (Ext.refl w).alloc (.cells #[.int .i64 0, .string ⟨#[]⟩, .string ⟨#[]⟩, .int .i64 0, .int .i64 0, .int .i64 0, .int .u64 0, .int .i64 0, .slice none 0 0] 25)
  generalize hw0 : w.alloc _ = w0 at *
  clear hw0
  obtain ⟨H, hH⟩ : ∃ H, H = w.heap.size := ⟨_, rfl⟩
  rw [← hH] at hz hE0 ⊢
  have HH := Lib.hid hH
  clear hH h
  go_upto_region 2 with fail
  have hR1 := RR.new h0 hl
  have hz1 := (Below.heap_alloc w0 (.cells #[.slice ad len cap, .int .i64 0, .int .i64 0] 91) _ (lt_of_heap hz)).trans hz
  have hE1 := hE0.alloc (.cells #[.slice ad len cap, .int .i64 0, .int .i64 0] 91)
  have hHq := lt_of_heap hz
  clear hz hE0 h0
  generalize w0.alloc _ = w1 at *
  generalize w0.heap.size = q at *
  go_wp2_with fail
  refine (rref_byte q q xs (xs, 0) w1 hR1).mono ?_
  rintro e w2 ⟨rfl, hP2⟩
  rw [HKK.out]
  have hE2 := hE1.to (hP2.2.below hE1.2 (fun _ _ hk => by subst hk; exact Nat.le_of_lt hHq))
  have hz2 := (hP2.2.block H (lt_of_heap hz1) (Nat.ne_of_lt hHq)).trans hz1
  clear hR1 hE1 hz1 hP2
  have hz4 := (Below.heap_alloc w2 (.cells #[.int .i64 k, .string ⟨#[]⟩, .string ⟨#[]⟩, .int .i64 0, .int .i64 0, .int .i64 0, .int .u64 0, .int .i64 0, .slice none 0 0] 25) _ (lt_of_heap hz2)).trans hz2
  have ho4 := cells_at (heap_alloc_new w2 (.cells #[.int .i64 k, .string ⟨#[]⟩, .string ⟨#[]⟩, .int .i64 0, .int .i64 0, .int .i64 0, .int .u64 0, .int .i64 0, .slice none 0 0] 25)) 0
  simp only [List.getElem?_toArray, List.getElem?_cons_zero] at ho4
  have hE4 := hE2.alloc (.cells #[.int .i64 k, .string ⟨#[]⟩, .string ⟨#[]⟩, .int .i64 0, .int .i64 0, .int .i64 0, .int .u64 0, .int .i64 0, .slice none 0 0] 25)
  clear hz2 hE2
  go_upto_region 3 with fail
  generalize w2.alloc _ = w4 at *
  generalize w2.heap.size = O at *
  have F := frozen_at hz4
  have f0 := F 0; have f1 := F 1; have f2 := F 2; have f3 := F 3; have f4 := F 4; have f5 := F 5; have f6 := F 6; have f7 := F 7; have f8 := F 8
  have C := cells_at hz4
  have c0 := C 0; have c1 := C 1; have c2 := C 2; have c3 := C 3; have c4 := C 4; have c5 := C 5; have c6 := C 6; have c7 := C 7; have c8 := C 8
  simp only [List.getElem?_toArray, List.getElem?_cons_zero, List.getElem?_cons_succ] at c0 c1 c2 c3 c4 c5 c6 c7 c8
  clear F C
  have hkd : ∀ P : Prop, ((k : Int) < 1 → P) → (1 ≤ (k : Int) → 17 < (k : Int) → P) → P := fun P h1 h2 => by
    rcases hkk with h | h
    · exact h1 h
    · exact h2 (by omega) h
  clear hkk
  refine hkd _ (fun hk1 => ?_) (fun hk1 hk2 => ?_)
  all_goals clear hkd
  all_goals go_wp2_with fail
  all_goals refine bodyPost_ret (v := .tuple #[.agg (opCells zeroOv zv), .int .i64 30]) (by simp [results, Try.results39, go_sem, opCells, zeroOv, strOf, zv, c0, c1, c2, c3, c4, c5, c6, c7, c8]) rfl ⟨⟨zv, rfl, Own.nil _ _⟩, ?_⟩
  all_goals rw [← HH.out]
  all_goals exact (((((((((hE4.setCell (Nat.le_refl _) _).setCell (Nat.le_refl _) _).setCell (Nat.le_refl _) _).setCell (Nat.le_refl _) _).setCell (Nat.le_refl _) _).setCell (Nat.le_refl _) _).setCell (Nat.le_refl _) _).setCell (Nat.le_refl _) _).setCell (Nat.le_refl _) _).1

set_option maxHeartbeats 8000000 in
set_option maxRecDepth 100000 in
theorem rdecop_ok (ad : Option Addr) (len cap : Nat) (xs : List UInt8) (w : World) (h : Bs w ad len cap xs) (hl : len ≤ big) (a : Ask) (ha : asksOf ((rdByte (xs, 0)).1 : Nat) = some a) :
    Calls Try.prog 39 #[.slice ad len cap] w fun e w' => DecPost xs w.heap.size e w' ∧ Below w.heap.size w w' := by
  have hxl := h.1
  have hdec : opDec xs = if rdEnd (opRead a (rdByte (xs, 0)).1 (rdByte (xs, 0)).2).2 = 0 ∧ (opRead a (rdByte (xs, 0)).1 (rdByte (xs, 0)).2).1.right a = 0
    then ((opRead a (rdByte (xs, 0)).1 (rdByte (xs, 0)).2).1, 0) else (zeroOv, 12) := by unfold opDec; rw [ha]
  have hll : (rdByte (xs, 0)).2.1.length ≤ big := Nat.le_trans (rdRaw_left (xs, 0) 1) (by rw [hxl]; exact hl)
  unfold DecPost
  have HD := Lib.hid hdec
  generalize opDec xs = D at *
  generalize hk : (rdByte (xs, 0)).1 = k at *
  generalize hT : (rdByte (xs, 0)).2 = T0 at *
  have HKK := Lib.hid hk
  have HTT := Lib.hid hT
  have HAK := Lib.hid ha
  obtain ⟨p, t, f, qq, u, s, d⟩ := a
  have HQ := Lib.hid (kind_eqs ha)
  have hr0 := asksOf_range ha
  have e1 : (1 : Int) ≤ (k : Int) := by omega
  have e2 : (k : Int) ≤ 17 := by omega
  clear ha hk hT hdec hr0
  go_enter Try.func39, Try.ntmps39
  go_upto_region 1 with fail
  have h0 := h.alloc (.cells #[.int .i64 0, .string ⟨#[]⟩, .string ⟨#[]⟩, .int .i64 0, .int .i64 0, .int .i64 0, .int .u64 0, .int .i64 0, .slice none 0 0] 25)
  have hz := heap_alloc_new w (.cells #[.int .i64 0, .string ⟨#[]⟩, .string ⟨#[]⟩, .int .i64 0, .int .i64 0, .int .i64 0, .int .u64 0, .int .i64 0, .slice none 0 0] 25)
  have hE0 := (Ext.refl w).alloc (.cells #[.int .i64 0, .string ⟨#[]⟩, .string ⟨#[]⟩, .int .i64 0, .int .i64 0, .int .i64 0, .int .u64 0, .int .i64 0, .slice none 0 0] 25)
  generalize hw0 : w.alloc _ = w0 at *
  clear hw0
  obtain ⟨H, hH⟩ : ∃ H, H = w.heap.size := ⟨_, rfl⟩
  rw [← hH] at hz hE0 ⊢
  have HH := Lib.hid hH
  clear hH h
  go_upto_region 2 with fail
  have hR1 := RR.new h0 hl
  have hz1 := (Below.heap_alloc w0 (.cells #[.slice ad len cap, .int .i64 0, .int .i64 0] 91) _ (lt_of_heap hz)).trans hz
  have hE1 := hE0.alloc (.cells #[.slice ad len cap, .int .i64 0, .int .i64 0] 91)
  have hHq := lt_of_heap hz
  clear hz hE0 h0
  generalize w0.alloc _ = w1 at *
  generalize w0.heap.size = q at *
  go_wp2_with fail
  refine (rref_byte q q xs (xs, 0) w1 hR1).mono ?_
  rintro e w2 ⟨rfl, hP2⟩
  rw [HKK.out]
  have hE2 := hE1.to (hP2.2.below hE1.2 (fun _ _ hk => by subst hk; exact Nat.le_of_lt hHq))
  have hz2 := (hP2.2.block H (lt_of_heap hz1) (Nat.ne_of_lt hHq)).trans hz1
  have hR2 := hP2.1
  rw [HTT.out] at hR2
  have hq2 := hR2.lt
  clear hR1 hE1 hz1 hP2
  have hz4 := (Below.heap_alloc w2 (.cells #[.int .i64 k, .string ⟨#[]⟩, .string ⟨#[]⟩, .int .i64 0, .int .i64 0, .int .i64 0, .int .u64 0, .int .i64 0, .slice none 0 0] 25) _ (lt_of_heap hz2)).trans hz2
  have ho4 := heap_alloc_new w2 (.cells #[.int .i64 k, .string ⟨#[]⟩, .string ⟨#[]⟩, .int .i64 0, .int .i64 0, .int .i64 0, .int .u64 0, .int .i64 0, .slice none 0 0] 25)
  have hE4 := hE2.alloc (.cells #[.int .i64 k, .string ⟨#[]⟩, .string ⟨#[]⟩, .int .i64 0, .int .i64 0, .int .i64 0, .int .u64 0, .int .i64 0, .slice none 0 0] 25)
  have hR4 := hR2.chg (Below.alloc (Below.refl _ _) (Nat.le_refl _) (.cells #[.int .i64 k, .string ⟨#[]⟩, .string ⟨#[]⟩, .int .i64 0, .int .i64 0, .int .i64 0, .int .u64 0, .int .i64 0, .slice none 0 0] 25))
  clear hz2 hE2 hR2
  go_upto_region 3 with fail
  generalize w2.alloc _ = w4 at *
  generalize w2.heap.size = O at *
  have hI0 : DecI (RrR q xs) 25 25 w H q O H (opCells ⟨k, [], [], 0, 0, 0, 0, 0, []⟩ (.slice none 0 0)) (opCells zeroOv (.slice none 0 0)) (opCells zeroOv (.slice none 0 0)) T0 w4 :=
    ⟨hE4, hR4, hll, ho4, hz4, hz4, Nat.ne_of_gt hq2, Nat.ne_of_lt hHq, hHq, by omega, by omega, RrR.set hq2⟩
  clear hE4 hR4 hll ho4 hz4 HKK HTT
  have d0 := hI0.cell 0
  simp only [opCells, List.getElem?_toArray, List.getElem?_cons_zero] at d0
  -- path
  go_wp2_with fail
  refine (pred_path k _ HAK.out _).mono ?_
  rintro e w9 ⟨rfl, rfl⟩
  have g0 := d0
  go_upto_if 25 with fail
  go_cut [] (fun wx => ∃ (x1 : List UInt8) (T : List UInt8 × Nat), (x1, T) = opt p [] rdBytes T0 ∧ DecI (RrR q xs) 25 25 w H q O H (opCells ⟨k, x1, [], 0, 0, 0, 0, 0, []⟩ (.slice none 0 0)) (opCells zeroOv (.slice none 0 0)) (opCells zeroOv (.slice none 0 0)) T wx)
  case first =>
    cases p
    · go_wp2_with fail
      go_meet
      exact ⟨[], T0, rfl, hI0⟩
    · go_wp2_with fail
      refine (rref_bytes q q xs T0 _ hI0.rd).mono ?_
      rintro e w9 ⟨v9, rfl, ho9, hP9⟩
      have hI := hI0.next hP9.1 hP9.2 (Nat.le_trans (rdRaw_left _ _) (rdRaw_left T0 2))
      obtain ⟨a9, c9, rfl, hB9⟩ := ho9.bs
      have hs9 := run_string hB9
      have f9 := hI.free 1
      have e9 := hI.cell 1
      simp only [opCells, List.getElem?_toArray, List.getElem?_cons_zero, List.getElem?_cons_succ] at e9
      go_wp2_with fail
      go_meet
      exact ⟨(rdBytes T0).1, (rdBytes T0).2, rfl, hI.set 1 _ rfl⟩
  case rest =>
  clear g0 d0 hI0
  obtain ⟨x1, T1, h1, hI1⟩ := hcut
  have H1 := Lib.hid h1
  clear h1
  -- to
  have d0 := hI1.cell 0
  simp only [opCells, List.getElem?_toArray, List.getElem?_cons_zero] at d0
  go_wp2_with fail
  refine (pred_to k _ HAK.out _).mono ?_
  rintro e w9 ⟨rfl, rfl⟩
  have g0 := d0
  go_upto_if 32 with fail
  go_cut [] (fun wx => ∃ (x2 : List UInt8) (T : List UInt8 × Nat), (x2, T) = opt t [] rdBytes T1 ∧ DecI (RrR q xs) 25 25 w H q O H (opCells ⟨k, x1, x2, 0, 0, 0, 0, 0, []⟩ (.slice none 0 0)) (opCells zeroOv (.slice none 0 0)) (opCells zeroOv (.slice none 0 0)) T wx)
  case first =>
    cases t
    · go_wp2_with fail
      go_meet
      exact ⟨[], T1, rfl, hI1⟩
    · go_wp2_with fail
      refine (rref_bytes q q xs T1 _ hI1.rd).mono ?_
      rintro e w9 ⟨v9, rfl, ho9, hP9⟩
      have hI := hI1.next hP9.1 hP9.2 (Nat.le_trans (rdRaw_left _ _) (rdRaw_left T1 2))
      obtain ⟨a9, c9, rfl, hB9⟩ := ho9.bs
      have hs9 := run_string hB9
      have f9 := hI.free 2
      have e9 := hI.cell 2
      simp only [opCells, List.getElem?_toArray, List.getElem?_cons_zero, List.getElem?_cons_succ] at e9
      go_wp2_with fail
      go_meet
      exact ⟨(rdBytes T1).1, (rdBytes T1).2, rfl, hI.set 2 _ rfl⟩
  case rest =>
  clear g0 d0 hI1
  obtain ⟨x2, T2, h2, hI2⟩ := hcut
  have H2 := Lib.hid h2
  clear h2
  -- fd
  have d0 := hI2.cell 0
  simp only [opCells, List.getElem?_toArray, List.getElem?_cons_zero] at d0
  go_wp2_with fail
  refine (pred_fd k _ HAK.out _).mono ?_
  rintro e w9 ⟨rfl, rfl⟩
  have g0 := d0
  go_upto_if 39 with fail
  go_cut [] (fun wx => ∃ (x3 : Nat) (T : List UInt8 × Nat), (x3, T) = opt f 0 rdShort T2 ∧ DecI (RrR q xs) 25 25 w H q O H (opCells ⟨k, x1, x2, x3, 0, 0, 0, 0, []⟩ (.slice none 0 0)) (opCells zeroOv (.slice none 0 0)) (opCells zeroOv (.slice none 0 0)) T wx)
  case first =>
    cases f
    · go_wp2_with fail
      go_meet
      exact ⟨0, T2, rfl, hI2⟩
    · go_wp2_with fail
      refine (rref_short q q xs T2 _ hI2.rd).mono ?_
      rintro e w9 ⟨rfl, hP9⟩
      have hI := hI2.next hP9.1 hP9.2 (rdRaw_left T2 2)
      have f9 := hI.free 3
      have e9 := hI.cell 3
      simp only [opCells, List.getElem?_toArray, List.getElem?_cons_zero, List.getElem?_cons_succ] at e9
      go_wp2_with fail
      go_meet
      exact ⟨(rdShort T2).1, (rdShort T2).2, rfl, hI.set 3 _ rfl⟩
  case rest =>
  clear g0 d0 hI2
  obtain ⟨x3, T3, h3, hI3⟩ := hcut
  have H3 := Lib.hid h3
  clear h3
  -- at
  have d0 := hI3.cell 0
  simp only [opCells, List.getElem?_toArray, List.getElem?_cons_zero] at d0
  have g0 := HQ.out.1
  go_upto_if 45 with fail
  go_cut [] (fun wx => ∃ (x4 : Nat) (x5 : Nat) (S T : List UInt8 × Nat), (x4, S) = opt qq 0 rdShort T3 ∧ (x5, T) = opt qq 0 rdShort S ∧ DecI (RrR q xs) 25 25 w H q O H (opCells ⟨k, x1, x2, x3, x4, x5, 0, 0, []⟩ (.slice none 0 0)) (opCells zeroOv (.slice none 0 0)) (opCells zeroOv (.slice none 0 0)) T wx)
  case first =>
    cases qq
    · go_wp2_with fail
      go_meet
      exact ⟨0, 0, T3, T3, rfl, rfl, hI3⟩
    · go_wp2_with fail
      refine (rref_short q q xs T3 _ hI3.rd).mono ?_
      rintro e w8 ⟨rfl, hP8⟩
      have hI8 := hI3.next hP8.1 hP8.2 (rdRaw_left T3 2)
      clear g0
      go_wp2_with fail
      refine (rref_short q q xs (rdShort T3).2 _ hI8.rd).mono ?_
      rintro e w9 ⟨rfl, hP9⟩
      have hI := hI8.next hP9.1 hP9.2 (rdRaw_left _ 2)
      have f8 := hI.free 4
      have f9 := hI.free 5
      have e8 := hI.cell 4
      have e9 := hI.cell 5
      simp only [opCells, List.getElem?_toArray, List.getElem?_cons_zero, List.getElem?_cons_succ] at e8 e9
      go_wp2_with fail
      go_meet
      exact ⟨(rdShort T3).1, (rdShort (rdShort T3).2).1, (rdShort T3).2, (rdShort (rdShort T3).2).2, rfl, rfl, (hI.set 4 _ rfl).set 5 _ rfl⟩
  case rest =>
  clear g0 d0 hI3
  obtain ⟨x4, x5, S4, T4, h4, h5, hI4⟩ := hcut
  have H4 := Lib.hid h4
  have H5 := Lib.hid h5
  clear h4 h5
  -- til
  have d0 := hI4.cell 0
  simp only [opCells, List.getElem?_toArray, List.getElem?_cons_zero] at d0
  go_wp2_with fail
  refine (pred_til k _ HAK.out _).mono ?_
  rintro e w9 ⟨rfl, rfl⟩
  have g0 := d0
  go_upto_if 54 with fail
  go_cut [] (fun wx => ∃ (x6 : Nat) (T : List UInt8 × Nat), (x6, T) = opt u 0 rdLong T4 ∧ DecI (RrR q xs) 25 25 w H q O H (opCells ⟨k, x1, x2, x3, x4, x5, x6, 0, []⟩ (.slice none 0 0)) (opCells zeroOv (.slice none 0 0)) (opCells zeroOv (.slice none 0 0)) T wx)
  case first =>
    cases u
    · go_wp2_with fail
      go_meet
      exact ⟨0, T4, rfl, hI4⟩
    · go_wp2_with fail
      refine (rref_long q q xs T4 _ hI4.rd).mono ?_
      rintro e w9 ⟨rfl, hP9⟩
      have hI := hI4.next hP9.1 hP9.2 (rdRaw_left T4 8)
      have f9 := hI.free 6
      have e9 := hI.cell 6
      simp only [opCells, List.getElem?_toArray, List.getElem?_cons_zero, List.getElem?_cons_succ] at e9
      go_wp2_with fail
      go_meet
      exact ⟨(rdLong T4).1, (rdLong T4).2, rfl, hI.set 6 _ rfl⟩
  case rest =>
  clear g0 d0 hI4
  obtain ⟨x6, T5, h6, hI5⟩ := hcut
  have H6 := Lib.hid h6
  clear h6
  -- snap
  have d0 := hI5.cell 0
  simp only [opCells, List.getElem?_toArray, List.getElem?_cons_zero] at d0
  go_wp2_with fail
  refine (pred_snap k _ HAK.out _).mono ?_
  rintro e w9 ⟨rfl, rfl⟩
  have g0 := d0
  go_upto_if 60 with fail
  go_cut [] (fun wx => ∃ (x7 : Nat) (T : List UInt8 × Nat), (x7, T) = opt s 0 rdShort T5 ∧ DecI (RrR q xs) 25 25 w H q O H (opCells ⟨k, x1, x2, x3, x4, x5, x6, x7, []⟩ (.slice none 0 0)) (opCells zeroOv (.slice none 0 0)) (opCells zeroOv (.slice none 0 0)) T wx)
  case first =>
    cases s
    · go_wp2_with fail
      go_meet
      exact ⟨0, T5, rfl, hI5⟩
    · go_wp2_with fail
      refine (rref_short q q xs T5 _ hI5.rd).mono ?_
      rintro e w9 ⟨rfl, hP9⟩
      have hI := hI5.next hP9.1 hP9.2 (rdRaw_left T5 2)
      have f9 := hI.free 7
      have e9 := hI.cell 7
      simp only [opCells, List.getElem?_toArray, List.getElem?_cons_zero, List.getElem?_cons_succ] at e9
      go_wp2_with fail
      go_meet
      exact ⟨(rdShort T5).1, (rdShort T5).2, rfl, hI.set 7 _ rfl⟩
  case rest =>
  clear g0 d0 hI5
  obtain ⟨x7, T6, h7, hI6⟩ := hcut
  have H7 := Lib.hid h7
  clear h7
  -- data
  have d0 := hI6.cell 0
  simp only [opCells, List.getElem?_toArray, List.getElem?_cons_zero] at d0
  have g0 := HQ.out.2
  go_upto_if 66 with fail
  go_cut [] (fun wx => ∃ (x8 : List UInt8) (T : List UInt8 × Nat) (v8 : Value), (x8, T) = opt d [] rdBytes T6 ∧ Own wx H v8 x8 ∧ (∀ b, v8.ownBlock = some b → O < b) ∧ DecI (RrR q xs) 25 25 w H q O H (opCells ⟨k, x1, x2, x3, x4, x5, x6, x7, x8⟩ v8) (opCells zeroOv (.slice none 0 0)) (opCells zeroOv (.slice none 0 0)) T wx)
  case first =>
    cases d
    · go_wp2_with fail
      go_meet
      exact ⟨[], T6, .slice none 0 0, rfl, Own.nil _ _, (fun b h => by cases h), hI6⟩
    · go_wp2_with fail
      refine (rref_bytes q q xs T6 _ hI6.rd).mono ?_
      rintro e w9 ⟨v9, rfl, ho9, hP9⟩
      have hI := hI6.next hP9.1 hP9.2 (Nat.le_trans (rdRaw_left _ _) (rdRaw_left T6 2))
      have hOb : ∀ b, v9.ownBlock = some b → O < b := fun b hb => Nat.lt_of_lt_of_le (lt_of_heap hI6.o) (ho9.blk b hb)
      have hOH : H ≤ wc.heap.size := hI6.ext.2
      have ho9 := ho9.base hOH
      obtain ⟨a9, c9, rfl, hB9⟩ := ho9.bs
      have f9 := hI.free 8
      have e9 := hI.cell 8
      simp only [opCells, List.getElem?_toArray, List.getElem?_cons_zero, List.getElem?_cons_succ] at e9
      go_wp2_with fail
      go_meet
      exact ⟨(rdBytes T6).1, (rdBytes T6).2, .slice a9 (rdBytes T6).1.length c9, rfl, ho9.setOther (p := ⟨O, 8, none⟩) (fun b hb => Nat.ne_of_gt (hOb b hb)) _, hOb, hI.set 8 _ rfl⟩
  case rest =>
  clear g0 d0 hI6
  obtain ⟨x8, T7, v8, h8, ho8, hb8, hI7⟩ := hcut
  have H8 := Lib.hid h8
  clear h8
  have hres : opRead ⟨p, t, f, qq, u, s, d⟩ k T0 = (⟨k, x1, x2, x3, x4, x5, x6, x7, x8⟩, T7) := by
    unfold opRead
    simp only
    rw [← H1.out, ← H2.out, ← H3.out, ← H4.out, ← H5.out, ← H6.out, ← H7.out, ← H8.out]
  rw [hres] at HD
  simp only at HD
  clear hres H1 H2 H3 H4 H5 H6 H7 H8
  obtain ⟨a8, k8, rfl, hB8⟩ := ho8.bs
  have hbz : ∀ b, (Value.slice a8 x8.length k8).ownBlock = some b → b ≠ H := fun b hb => by have := hb8 b hb; have := hI7.HO; omega
  have c := hI7.cell
  have c0 := c 0; have c1 := c 1; have c2 := c 2; have c3 := c 3; have c4 := c 4; have c5 := c 5; have c6 := c 6; have c7 := c 7; have c8 := c 8
  simp only [opCells, List.getElem?_toArray, List.getElem?_cons_zero, List.getElem?_cons_succ] at c0 c1 c2 c3 c4 c5 c6 c7 c8
  clear c
  have HR := Lib.hid (renc_any k x1 x2 x3 x4 x5 x6 x7 a8 x8.length k8 x8 wc hB8)
  rw [opEnc_snd _ _ HAK.out] at HR
  unfold ovCells at HR
  generalize Ov.right _ _ = r at *
  go_wp2_with fail
  refine HR.out.mono ?_
  rintro e w8 ⟨v7, rfl, _, hb8'⟩
  have hI7 := hI7.below hb8' (RR.chg hI7.rd hb8')
  have ho8 := ho8.below hb8'
  clear c0 c1 c2 c3 c4 c5 c6 c7 c8 HR hB8
  go_wp2_with fail
  refine (rref_end q q xs T7 _ hI7.rd).mono ?_
  rintro e w9 ⟨rfl, hb9⟩
  have hI7 := hI7.below hb9 (RR.chg hI7.rd hb9)
  have ho8 := ho8.below hb9
  have F := frozen_at hI7.z
  have z0 := F 0; have z1 := F 1; have z2 := F 2; have z3 := F 3; have z4 := F 4; have z5 := F 5; have z6 := F 6; have z7 := F 7; have z8 := F 8
  have C := cells_at hI7.z
  have y0 := C 0; have y1 := C 1; have y2 := C 2; have y3 := C 3; have y4 := C 4; have y5 := C 5; have y6 := C 6; have y7 := C 7; have y8 := C 8
  simp only [opCells, zeroOv, strOf, List.getElem?_toArray, List.getElem?_cons_zero, List.getElem?_cons_succ] at y0 y1 y2 y3 y4 y5 y6 y7 y8
  clear F C
  by_cases hen : rdEnd T7 = 0
  · rw [hen] at HD ⊢
    rw [show ((0 : Nat) : Int) = 0 from rfl]
    by_cases hr : r = 0
    · rw [if_pos (by first | exact ⟨rfl, hr⟩ | exact ⟨trivial, hr⟩)] at HD
      rw [hr, show ((0 : Nat) : Int) = 0 from rfl]
      have c := hI7.cell
      have c0 := c 0; have c1 := c 1; have c2 := c 2; have c3 := c 3; have c4 := c 4; have c5 := c 5; have c6 := c 6; have c7 := c 7; have c8 := c 8
      simp only [opCells, List.getElem?_toArray, List.getElem?_cons_zero, List.getElem?_cons_succ] at c0 c1 c2 c3 c4 c5 c6 c7 c8
      clear c
      clear hr
      go_upto_region 22 with fail
      repeat go_step
      refine bodyPost_ret (v := .tuple #[.agg (opCells ⟨k, x1, x2, x3, x4, x5, x6, x7, x8⟩ (.slice a8 x8.length k8)), .int .i64 0]) (by simp [results, Try.results39, go_sem, opCells, y0, y1, y2, y3, y4, y5, y6, y7, y8]) rfl ⟨⟨.slice a8 x8.length k8, by rw [HD.out]; rfl, ?_⟩, ?_⟩
      · rw [← HH.out, HD.out]
        exact ((((((((ho8.setOther hbz _).setOther hbz _).setOther hbz _).setOther hbz _).setOther hbz _).setOther hbz _).setOther hbz _).setOther hbz _).setOther hbz _
      · rw [← HH.out]
        exact (((((((((hI7.ext.setCell (Nat.le_refl _) _).setCell (Nat.le_refl _) _).setCell (Nat.le_refl _) _).setCell (Nat.le_refl _) _).setCell (Nat.le_refl _) _).setCell (Nat.le_refl _) _).setCell (Nat.le_refl _) _).setCell (Nat.le_refl _) _).setCell (Nat.le_refl _) _).1
    · rw [if_neg (fun h => hr h.2)] at HD
      have h1 : ((r : Int) == 0) = false := by simp; omega
      have h2 : ((r : Int) != 0) = true := by rw [bne, h1]; rfl
      clear hr h1
      go_upto_region 21 with fail
      repeat go_step
      refine bodyPost_ret (v := .tuple #[.agg (opCells zeroOv zv), .int .i64 12]) (by simp [results, Try.results39, go_sem, opCells, zeroOv, strOf, zv, y0, y1, y2, y3, y4, y5, y6, y7, y8]) rfl ⟨⟨zv, by rw [HD.out]; rfl, by rw [HD.out]; exact Own.nil _ _⟩, ?_⟩
      rw [← HH.out]
      exact (((((((((hI7.ext.setCell (Nat.le_refl _) _).setCell (Nat.le_refl _) _).setCell (Nat.le_refl _) _).setCell (Nat.le_refl _) _).setCell (Nat.le_refl _) _).setCell (Nat.le_refl _) _).setCell (Nat.le_refl _) _).setCell (Nat.le_refl _) _).setCell (Nat.le_refl _) _).1
  · rw [if_neg (fun h => hen h.1)] at HD
    have h1 : ((rdEnd T7 : Nat) : Int) ≠ 0 := by omega
    have h2 : (((rdEnd T7 : Nat) : Int) != 0) = true := by rw [bne_iff_ne]; exact h1
    clear hen h1
    go_upto_region 21 with fail
    repeat go_step
    refine bodyPost_ret (v := .tuple #[.agg (opCells zeroOv zv), .int .i64 12]) (by simp [results, Try.results39, go_sem, opCells, zeroOv, strOf, zv, y0, y1, y2, y3, y4, y5, y6, y7, y8]) rfl ⟨⟨zv, by rw [HD.out]; rfl, by rw [HD.out]; exact Own.nil _ _⟩, ?_⟩
    rw [← HH.out]
    exact (((((((((hI7.ext.setCell (Nat.le_refl _) _).setCell (Nat.le_refl _) _).setCell (Nat.le_refl _) _).setCell (Nat.le_refl _) _).setCell (Nat.le_refl _) _).setCell (Nat.le_refl _) _).setCell (Nat.le_refl _) _).setCell (Nat.le_refl _) _).setCell (Nat.le_refl _) _).1

theorem rdecop_any (ad : Option Addr) (len cap : Nat) (xs : List UInt8) (w : World) (h : Bs w ad len cap xs) (hl : len ≤ big) :
    Calls Try.prog 39 #[.slice ad len cap] w fun e w' => DecPost xs w.heap.size e w' ∧ Below w.heap.size w w' := by
  cases ha : asksOf ((rdByte (xs, 0)).1 : Nat) with
  | none => exact rdecop_kind ad len cap xs w h hl ha
  | some a => exact rdecop_ok ad len cap xs w h hl a ha
end Go.Proofs.Ytphjdlckoddgmaa
