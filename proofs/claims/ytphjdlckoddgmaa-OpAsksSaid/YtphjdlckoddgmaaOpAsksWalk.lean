/- The walk of OpAsks. -/
import Derived.Test.YtphjdlckoddgmaaOpBackLaw
import Derived.Test.YtphjdlckoddgmaaOpTame2
import Derived.Test.YtphjdlckoddgmaaOpDec
import Derived.Test.YtphjdlckoddgmaaOpArg
import Derived.Test.YtphjdlckoddgmaaHeldB
import Derived.Deep.DeepCutAuto
namespace Go.Proofs.Ytphjdlckoddgmaa
open Go.RowKit

theorem tame_ok (a : Ask) (p t d : Nat) (fd at_ n sn : Int) (hp : p ≤ 10) (ht : t ≤ 10) (hd : d ≤ 40) (f1 : 0 ≤ fd ∧ fd ≤ 3) (a1 : 0 ≤ at_ ∧ at_ ≤ 50) (n1 : 0 ≤ n ∧ n ≤ 60) (s1 : 0 ≤ sn) (s2 : sn ≤ 4) : rightN a p t d fd at_ n sn = 0 := by
  unfold rightN shortI
  rw [if_neg, if_neg]
  · rintro (⟨_, h⟩ | ⟨_, h | h⟩ | ⟨_, h⟩) <;> (simp at h; omega)
  · rintro (⟨_, h⟩ | ⟨_, h⟩ | ⟨_, h⟩) <;> omega
theorem asks_is {k : Int} (h1 : 1 ≤ k) (h2 : k ≤ 17) : ∃ a, asksOf k = some a := by
  rcases kinds (k := k) (by omega) with rfl | rfl | rfl | rfl | rfl | rfl | rfl | rfl | rfl | rfl | rfl | rfl | rfl | rfl | rfl | rfl | rfl <;> exact ⟨_, rfl⟩
theorem if_twice {α : Type} (c : Bool) (x z : α) : (if c = true then (if c = true then x else z) else z) = if c = true then x else z := by cases c <;> rfl
theorem opEnc_of (o : Ov) (a : Ask) (ha : asksOf o.kind = some a) (hr : o.right a = 0) : opEnc o = (o.bytes a, 0) := by
  unfold opEnc
  rw [ha]
  simp only
  rw [if_pos hr]
theorem Ov.head_byte (o : Ov) (a : Ask) (ha : asksOf o.kind = some a) : ∃ h : 0 < (o.bytes a).length, (((o.bytes a)[0]'h).toNat : Int) = o.kind := by
  have hr := asksOf_range ha
  have e : o.bytes a = UInt8.ofNat o.kind.toNat :: o.tail a := by simp [Ov.bytes, be]
  refine ⟨by rw [e]; simp, ?_⟩
  simp only [e, List.getElem_cons_zero]
  rw [UInt8.toNat_ofNat']
  omega

set_option maxHeartbeats 8000000 in
set_option maxRecDepth 100000 in
theorem OpAsks_walk (v0 : Value) (v1 : Value) (w : World) (h0 : Arg Try.prog w 25 v0) (h1 : Arg Try.prog w 25 v1) :
    Calls Try.prog 4 #[v0, v1] w fun e w' => e = .returned (.bool true) ∧ Below w.heap.size w w' := by
  obtain ⟨k, ps, ts, fd, at_, n, til, sn, da, dl, dc, ds, rfl, htil, hB⟩ := h0.op
  obtain ⟨k2, ps2, ts2, fd2, at2, n2, til2, sn2, db, dl2, dc2, ds2, rfl, htil2, hB2⟩ := h1.op
  clear h0 h1
  have hlc := hB.2.1
  have hlc2 := hB2.2.1
  obtain ⟨H, hH⟩ : ∃ H, H = w.heap.size := ⟨_, rfl⟩
  have HH := Lib.hid hH
  have hD : ∀ W, Ext H w W → Bs W da dl dc ds := fun W hb => hb.bs hH.symm hB
  have hD2 : ∀ W, Ext H w W → Bs W db dl2 dc2 ds2 := fun W hb => hb.bs hH.symm hB2
  have HBA := Lib.hid (And.intro hD hD2)
  clear hD hD2 hB hB2
  obtain ⟨wA, hwA⟩ : ∃ W, W = w.alloc (.cells (ovCells k (strOf ps) (strOf ts) fd at_ n til sn da dl dc) 25) := ⟨_, rfl⟩
  obtain ⟨wC, hwC⟩ : ∃ W, W = wA.alloc (.cells (ovCells k2 (strOf ps2) (strOf ts2) fd2 at2 n2 til2 sn2 db dl2 dc2) 25) := ⟨_, rfl⟩
  have hsA : wA.heap.size = H + 1 := by rw [hwA, hH]; simp
  have hoA : wA.heap[H]? = some (.cells (ovCells k (strOf ps) (strOf ts) fd at_ n til sn da dl dc) 25 (0, 0)) := by rw [hwA, hH]; exact heap_alloc_new w _
  have hoC : wC.heap[H]? = some (.cells (ovCells k (strOf ps) (strOf ts) fd at_ n til sn da dl dc) 25 (0, 0)) := by rw [hwC]; exact (Below.heap_alloc wA _ _ (lt_of_heap hoA)).trans hoA
  have hpC : wC.heap[H + 1]? = some (.cells (ovCells k2 (strOf ps2) (strOf ts2) fd2 at2 n2 til2 sn2 db dl2 dc2) 25 (0, 0)) := by rw [hwC, ← hsA]; exact heap_alloc_new wA _
  have hEC : Ext H w wC := by
    rw [hwC, hwA, hH]
    exact ((Ext.refl w).alloc _).alloc _
  have HW := Lib.hid (And.intro hwA hwC)
  have HS1 := Lib.hid (fun w => tame_any k (strOf ps) (strOf ts) fd at_ n til sn da dl dc hlc w)
  have HS2 := Lib.hid (fun w => tame_any k2 (strOf ps2) (strOf ts2) fd2 at2 n2 til2 sn2 db dl2 dc2 hlc2 w)
  unfold tameCells at HS1 HS2
  have hm1 : min dl 40 ≤ dl := Nat.min_le_left _ _
  have hm1' : min dl 40 ≤ 40 := Nat.min_le_right _ _
  have hm2 : min dl2 40 ≤ dl2 := Nat.min_le_left _ _
  have hm2' : min dl2 40 ≤ 40 := Nat.min_le_right _ _
  have HN1 := Lib.hid (And.intro (within_bd fd 0 3 (by decide)) (And.intro (within_bd at_ 0 50 (by decide)) (within_bd n 0 60 (by decide))))
  have HN2 := Lib.hid (And.intro (within_bd fd2 0 3 (by decide)) (And.intro (within_bd at2 0 50 (by decide)) (within_bd n2 0 60 (by decide))))
  have hu1 : til % 12 < 18446744073709551616 := by omega
  have hu2 : til2 % 12 < 18446744073709551616 := by omega
  generalize min dl 40 = m1 at *
  generalize min dl2 40 = m2 at *
  generalize within fd 0 3 = fo at *
  generalize within at_ 0 50 = ao at *
  generalize within n 0 60 = no at *
  generalize til % 12 = uo at *
  generalize within fd2 0 3 = fp at *
  generalize within at2 0 50 = ap at *
  generalize within n2 0 60 = np at *
  generalize til2 % 12 = up at *
  clear hwA hwC hsA hoA
  unfold ovCells at *
  go_enter Try.func4, Try.ntmps4
  go_upto_region 1 with fail
  rw [← HW.out.1, ← HW.out.2, ← hH]
  clear hH HW
  have HO := Lib.hid hoC
  have HP := Lib.hid hpC
  have Dd := cells_at hpC
  (try unfold ovCells at Dd)
  have d0 := Dd 0; have d1 := Dd 1; have d2 := Dd 2; have d3 := Dd 3; have d4 := Dd 4; have d5 := Dd 5; have d6 := Dd 6; have d7 := Dd 7; have d8 := Dd 8
  simp only [List.getElem?_toArray, List.getElem?_cons_zero, List.getElem?_cons_succ] at d0 d1 d2 d3 d4 d5 d6 d7 d8
  clear Dd
  clear hoC hpC
  go_cut [] (fun wx => ∃ p1 p2 so p3 p4 sp, p1.length ≤ 10 ∧ p2.length ≤ 10 ∧ 0 ≤ so ∧ so ≤ 4 ∧ p3.length ≤ 10 ∧ p4.length ≤ 10 ∧ 0 ≤ sp ∧ sp ≤ 4 ∧ wx.heap[H]? = some (.cells (ovCells k (strOf p1) (strOf p2) fo ao no uo so da m1 dc) 25 (0, 0)) ∧ wx.heap[H + 1]? = some (.cells (ovCells k2 (strOf p3) (strOf p4) fp ap np up sp db m2 dc2) 25 (0, 0)) ∧ Ext H w wx)
  case first =>
    refine heldB_start (fun i => [0, 1, 2, 4].contains i) (fun w' => w'.cell? ⟨H + 1, 0, none⟩ = some (.int .i64 k2) ∧ w'.cell? ⟨H + 1, 1, none⟩ = some (.string (strOf ps2)) ∧ w'.cell? ⟨H + 1, 2, none⟩ = some (.string (strOf ts2)) ∧ w'.cell? ⟨H + 1, 3, none⟩ = some (.int .i64 fd2) ∧ w'.cell? ⟨H + 1, 4, none⟩ = some (.int .i64 at2) ∧ w'.cell? ⟨H + 1, 5, none⟩ = some (.int .i64 n2) ∧ w'.cell? ⟨H + 1, 6, none⟩ = some (.int .u64 (til2 : Int)) ∧ w'.cell? ⟨H + 1, 7, none⟩ = some (.int .i64 sn2) ∧ w'.cell? ⟨H + 1, 8, none⟩ = some (.slice db dl2 dc2)) (by kernel_rfl) ?_ (fun hHeld => ?_)
    · go_keep
    have hoC : wC.drew.heap[H]? = _ := HO.out
    have hpC : wC.drew.heap[H + 1]? = _ := HP.out
    have hEC := hEC.drew
    clear d0 d1 d2 d3 d4 d5 d6 d7 d8 HO HP
    generalize wC.drew = w1 at *
    refine heldB_take (i := 2) (v := ?_) 15 rfl (by kernel_rfl) (by kernel_rfl) (by kernel_rfl) (by kernel_rfl) (fun _ _ _ h => h) rfl (by assumption) (Or.inl ⟨by rfl, ?_⟩) ?_
    rotate_left
    · intro w hSw; (try dsimp only at hSw); go_simp; (try with_reducible rfl)
    simp only [List.set_cons_zero, List.set_cons_succ]
    have HO := Lib.hid hoC
    have HP := Lib.hid hpC
    have Dc := cells_at hoC
    (try unfold ovCells at Dc)
    have c0 := Dc 0; have c1 := Dc 1; have c2 := Dc 2; have c3 := Dc 3; have c4 := Dc 4; have c5 := Dc 5; have c6 := Dc 6; have c7 := Dc 7; have c8 := Dc 8
    simp only [List.getElem?_toArray, List.getElem?_cons_zero, List.getElem?_cons_succ] at c0 c1 c2 c3 c4 c5 c6 c7 c8
    clear Dc
    clear hoC hpC
    refine heldB_one 0 (by kernel_rfl) rfl (fun K hK => ?_)
    go_simp
    refine hK.out _ _ (fun _ => hHeld) ?_
    clear hK K c0 c1 c2 c3 c4 c5 c6 c7 c8
    refine heldB_one 1 (by kernel_rfl) rfl (fun K hK => ?_)
    go_simp
    refine (HS1.out _).mono ?_
    rintro e' w2 ⟨⟨p1, p2, so, rfl, hp1, hp2, hso1, hso2⟩, hb2⟩
    have hE2 := hEC.step hb2
    have hoC := (hb2.block _ (lt_of_heap HO.out)).trans HO.out
    have hpC := (hb2.block _ (lt_of_heap HP.out)).trans HP.out
    clear HO HP hEC hHeld hb2 HS1
    have HP := Lib.hid hpC
    have Dd := cells_at hpC
    (try unfold ovCells at Dd)
    have d0 := Dd 0; have d1 := Dd 1; have d2 := Dd 2; have d3 := Dd 3; have d4 := Dd 4; have d5 := Dd 5; have d6 := Dd 6; have d7 := Dd 7; have d8 := Dd 8
    simp only [List.getElem?_toArray, List.getElem?_cons_zero, List.getElem?_cons_succ] at d0 d1 d2 d3 d4 d5 d6 d7 d8
    clear Dd
    go_wp2_with fail
    refine hK.out _ _ (fun _ => ⟨d0, d1, d2, d3, d4, d5, d6, d7, d8⟩) ?_
    clear hK K d0 d1 d2 d3 d4 d5 d6 d7 d8
    refine heldB_one 3 (by kernel_rfl) rfl (fun K hK => ?_)
    go_simp
    refine (HS2.out _).mono ?_
    rintro e' w3 ⟨⟨p3, p4, sp, rfl, hp3, hp4, hsp1, hsp2⟩, hb3⟩
    have hE3 := hE2.step hb3
    have hoC := (hb3.block _ (lt_of_heap hoC)).trans hoC
    have hpC := (hb3.block _ (lt_of_heap hpC)).trans hpC
    clear HP hE2 hb3 HS2
    go_wp2_with fail
    refine hK.out _ _ (fun h => by simp at h) ?_
    clear hK K
    refine heldB_one 4 (by kernel_rfl) rfl (fun K hK => ?_)
    have Dc := cells_at hoC
    (try unfold ovCells at Dc)
    have c0 := Dc 0; have c1 := Dc 1; have c2 := Dc 2; have c3 := Dc 3; have c4 := Dc 4; have c5 := Dc 5; have c6 := Dc 6; have c7 := Dc 7; have c8 := Dc 8
    simp only [List.getElem?_toArray, List.getElem?_cons_zero, List.getElem?_cons_succ] at c0 c1 c2 c3 c4 c5 c6 c7 c8
    clear Dc
    have f := frozen_at hoC
    have f0 := f 0; have f1 := f 1; have f2 := f 2; have f3 := f 3; have f4 := f 4; have f5 := f 5; have f6 := f 6; have f7 := f 7; have f8 := f 8
    clear f
    have hne : H + 1 ≠ H := by omega
    have hoD := put9 (v0 := .int .i64 k) (v1 := .string (strOf p1)) (v2 := .string (strOf p2)) (v3 := .int .i64 fo) (v4 := .int .i64 ao) (v5 := .int .i64 no) (v6 := .int .u64 (uo : Int)) (v7 := .int .i64 so) (v8 := .slice da m1 dc) hoC
    have hpD := far9 (Z := H) (v0 := .int .i64 k) (v1 := .string (strOf p1)) (v2 := .string (strOf p2)) (v3 := .int .i64 fo) (v4 := .int .i64 ao) (v5 := .int .i64 no) (v6 := .int .u64 (uo : Int)) (v7 := .int .i64 so) (v8 := .slice da m1 dc) hpC hne
    have hED := ext9 hE3 (Nat.le_refl H) (.int .i64 k) (.string (strOf p1)) (.string (strOf p2)) (.int .i64 fo) (.int .i64 ao) (.int .i64 no) (.int .u64 (uo : Int)) (.int .i64 so) (.slice da m1 dc)
    clear hoC hpC hE3
    go_simp
    generalize World.setCell _ ⟨H, 8, none⟩ _ = w4 at *
    clear c0 c1 c2 c3 c4 c5 c6 c7 c8 f0 f1 f2 f3 f4 f5 f6 f7 f8
    have Dd := cells_at hpD
    (try unfold ovCells at Dd)
    have d0 := Dd 0; have d1 := Dd 1; have d2 := Dd 2; have d3 := Dd 3; have d4 := Dd 4; have d5 := Dd 5; have d6 := Dd 6; have d7 := Dd 7; have d8 := Dd 8
    simp only [List.getElem?_toArray, List.getElem?_cons_zero, List.getElem?_cons_succ] at d0 d1 d2 d3 d4 d5 d6 d7 d8
    clear Dd
    refine hK.out _ _ (fun _ => ⟨d0, d1, d2, d3, d4, d5, d6, d7, d8⟩) ?_
    clear hK K
    refine heldB_one 5 (by kernel_rfl) rfl (fun K hK => ?_)
    have f := frozen_at hpD
    have f0 := f 0; have f1 := f 1; have f2 := f 2; have f3 := f 3; have f4 := f 4; have f5 := f 5; have f6 := f 6; have f7 := f 7; have f8 := f 8
    clear f
    have hne3 : H ≠ H + 1 := by omega
    have hpE := put9 (v0 := .int .i64 k2) (v1 := .string (strOf p3)) (v2 := .string (strOf p4)) (v3 := .int .i64 fp) (v4 := .int .i64 ap) (v5 := .int .i64 np) (v6 := .int .u64 (up : Int)) (v7 := .int .i64 sp) (v8 := .slice db m2 dc2) hpD
    have hoE := far9 (Z := H + 1) (v0 := .int .i64 k2) (v1 := .string (strOf p3)) (v2 := .string (strOf p4)) (v3 := .int .i64 fp) (v4 := .int .i64 ap) (v5 := .int .i64 np) (v6 := .int .u64 (up : Int)) (v7 := .int .i64 sp) (v8 := .slice db m2 dc2) hoD hne3
    have hEE := ext9 hED (Nat.le_succ H) (.int .i64 k2) (.string (strOf p3)) (.string (strOf p4)) (.int .i64 fp) (.int .i64 ap) (.int .i64 np) (.int .u64 (up : Int)) (.int .i64 sp) (.slice db m2 dc2)
    have HALL := Lib.hid (And.intro hoE (And.intro hpE hEE))
    clear hoD hpD hED hoE hpE hEE
    go_simp
    refine hK.out _ _ (fun h => by simp at h) ?_
    clear hK K d0 d1 d2 d3 d4 d5 d6 d7 d8 f0 f1 f2 f3 f4 f5 f6 f7 f8
    refine heldB_done (by kernel_rfl) ?_ _
    go_wp2_with fail
    go_meet
    exact ⟨p1, p2, so, p3, p4, sp, hp1, hp2, hso1, hso2, hp3, hp4, hsp1, hsp2, HALL.out⟩
  case rest =>
    obtain ⟨p1, p2, so, p3, p4, sp, hp1, hp2, hso1, hso2, hp3, hp4, hsp1, hsp2, hO, hP, hE⟩ := hcut
    clear HO HP hEC d0 d1 d2 d3 d4 d5 d6 d7 d8 HS1 HS2
    have c0 := cells_at hO 0
    have f0 := frozen_at hO 0
    simp only [ovCells, List.getElem?_toArray, List.getElem?_cons_zero] at c0
    have HO := Lib.hid hO
    have HP := Lib.hid hP
    clear hO hP
    have hne : H + 1 ≠ H := by omega
    have hne3 : H ≠ H + 1 := by omega
    go_wp2_with fail
    refine (within_any k 0 16 _ (by decide) (by decide) (by decide)).mono ?_
    rintro e w4 ⟨rfl, rfl⟩
    have hk := within_bd k 0 16 (by decide)
    generalize within k 0 16 = kk at *
    obtain ⟨hk1, hk2⟩ := hk
    have hoE := cells_set (k := 0) (y := .int .i64 (1 + kk)) HO.out
    have hpE := cells_far (k := 0) (y := .int .i64 (1 + kk)) HP.out hne
    have hEE := hE.setCell (p := ⟨H, 0, none⟩) (Nat.le_refl H) (.int .i64 (1 + kk))
    go_upto_region 3 with fail
    generalize World.setCell _ ⟨H, 0, none⟩ _ = w4 at *
    obtain ⟨ky, hky⟩ : ∃ ky, ky = 1 + kk := ⟨_, rfl⟩
    rw [← hky] at hoE ⊢
    obtain ⟨a, hka⟩ := asks_is (k := ky) (by omega) (by omega)
    clear HO HP c0 f0 hE hk1 hk2 hky
    have hoE : w4.heap[H]? = some (.cells (ovCells ky (strOf p1) (strOf p2) fo ao no uo so da m1 dc) 25 (0, 0)) := hoE
    have HO := Lib.hid hoE
    have HP := Lib.hid hpE
    have c0 := cells_at hoE 0
    have d0 := cells_at hpE 0
    have g0 := frozen_at hpE 0
    simp only [ovCells, List.getElem?_toArray, List.getElem?_cons_zero] at c0 d0
    clear hoE hpE
    have hpF : (w4.setCell ⟨H + 1, 0, none⟩ (.int .i64 ky)).heap[H + 1]? = some (.cells (ovCells ky (strOf p3) (strOf p4) fp ap np up sp db m2 dc2) 25 (0, 0)) := cells_set (k := 0) (y := .int .i64 ky) HP.out
    have hoF := cells_far (k := 0) (y := .int .i64 ky) HO.out hne3
    have hE := hEE.setCell (p := ⟨H + 1, 0, none⟩) (Nat.le_succ H) (.int .i64 ky)
    go_upto_region 4 with fail
    generalize World.setCell _ ⟨H + 1, 0, none⟩ _ = w5 at *
    clear HO HP c0 d0 g0 hEE
    have hDo := (HBA.out.1 _ hE).take hm1
    have hdo : (ds.take m1).length = m1 := hDo.1
    have hDp := (HBA.out.2 _ hE).take hm2
    have hdp : (ds2.take m2).length = m2 := hDp.1
    have hro : Ov.right ⟨ky, p1, p2, fo, ao, no, uo, so, ds.take m1⟩ a = 0 := tame_ok a _ _ _ _ _ _ _ hp1 hp2 (by show (ds.take m1).length ≤ 40; omega) HN1.out.1 HN1.out.2.1 HN1.out.2.2 hso1 hso2
    have hrp : Ov.right ⟨ky, p3, p4, fp, ap, np, up, sp, ds2.take m2⟩ a = 0 := tame_ok a _ _ _ _ _ _ _ hp3 hp4 (by show (ds2.take m2).length ≤ 40; omega) HN2.out.1 HN2.out.2.1 HN2.out.2.2 hsp1 hsp2
    have hxo : opEnc ⟨ky, p1, p2, fo, ao, no, uo, so, ds.take m1⟩ = (Ov.bytes ⟨ky, p1, p2, fo, ao, no, uo, so, ds.take m1⟩ a, 0) := opEnc_of _ a hka hro
    have hxp : opEnc ⟨ky, p3, p4, fp, ap, np, up, sp, ds2.take m2⟩ = (Ov.bytes ⟨ky, p3, p4, fp, ap, np, up, sp, ds2.take m2⟩ a, 0) := opEnc_of _ a hka hrp
    have hxa : opEnc (Ov.asked ⟨ky, p1, p2, fo, ao, no, uo, so, ds.take m1⟩ a) = (Ov.bytes ⟨ky, p1, p2, fo, ao, no, uo, so, ds.take m1⟩ a, 0) := by
      rw [opEnc_of (Ov.asked ⟨ky, p1, p2, fo, ao, no, uo, so, ds.take m1⟩ a) a hka (by rw [Ov.right_asked]; exact hro), Ov.bytes_asked]
    have hdd := opDec_ok ⟨ky, p1, p2, fo, ao, no, uo, so, ds.take m1⟩ a hka hro hu1
    have hiff := opBytes_iff ⟨ky, p1, p2, fo, ao, no, uo, so, ds.take m1⟩ ⟨ky, p3, p4, fp, ap, np, up, sp, ds2.take m2⟩ a a hka hka hro hrp hu1 hu2
    have hhb := Ov.head_byte ⟨ky, p1, p2, fo, ao, no, uo, so, ds.take m1⟩ a hka
    have hbl := (Ov.bytes_len ⟨ky, p1, p2, fo, ao, no, uo, so, ds.take m1⟩ a hro).1
    have hEN1 := openc_any ky p1 p2 fo ao no uo so da m1 dc _ w5 hDo
    rw [hxo] at hEN1
    have HE1 := Lib.hid hEN1
    have HE2 := Lib.hid (fun w h => openc_any ky p3 p4 fp ap np up sp db m2 dc2 (ds2.take m2) w h)
    rw [hxp] at HE2
    have hoa : Ov.asked ⟨ky, p1, p2, fo, ao, no, uo, so, ds.take m1⟩ a = ⟨ky, if a.path then p1 else [], if a.to then p2 else [], if a.fd then fo else 0, if a.part then ao else 0, if a.part then no else 0, if a.til then uo else 0, if a.snap then so else 0, if a.data then ds.take m1 else []⟩ := rfl
    have hpb : Ov.asked ⟨ky, p3, p4, fp, ap, np, up, sp, ds2.take m2⟩ a = ⟨ky, if a.path then p3 else [], if a.to then p4 else [], if a.fd then fp else 0, if a.part then ap else 0, if a.part then np else 0, if a.til then up else 0, if a.snap then sp else 0, if a.data then ds2.take m2 else []⟩ := rfl
    have HAO := Lib.hid (fun w => asked_ov ky p1 p2 fo ao no uo so da m1 dc a hka w)
    have HAP := Lib.hid (fun w => asked_ov ky p3 p4 fp ap np up sp db m2 dc2 a hka w)
    have HAD := Lib.hid (fun (da' : Option Addr) (dl' dc' : Nat) w => asked_ov ky (if a.path = true then p1 else []) (if a.to = true then p2 else []) (if a.fd = true then fo else 0) (if a.part = true then ao else 0) (if a.part = true then no else 0) (if a.til = true then uo else 0) (if a.snap = true then so else 0) da' dl' dc' a hka w)
    simp only [if_twice] at HAD
    have HE3 := Lib.hid (fun (w : World) (da' : Option Addr) (dl' dc' : Nat) h => openc_any ky (if a.path = true then p1 else []) (if a.to = true then p2 else []) (if a.fd = true then fo else 0) (if a.part = true then ao else 0) (if a.part = true then no else 0) (if a.til = true then uo else 0) (if a.snap = true then so else 0) da' dl' dc' (if a.data = true then ds.take m1 else []) w h)
    rw [hoa] at hxa hdd
    rw [hxa] at HE3
    have hBo := hDo.asked a.data
    have hBp := hDp.asked a.data
    have hel5 : (if a.data = true then ds.take m1 else []).length ≤ 40 := by split <;> simp; omega
    rw [hoa, hpb] at hiff
    have hda : (if a.data = true then (if a.data = true then ds.take m1 else []) else []) = if a.data = true then ds.take m1 else [] := if_twice _ _ _
    simp only at HE1 HE2 HE3
    generalize Ov.bytes ⟨ky, p1, p2, fo, ao, no, uo, so, ds.take m1⟩ a = L1 at *
    generalize Ov.bytes ⟨ky, p3, p4, fp, ap, np, up, sp, ds2.take m2⟩ a = L2 at *
    have hdat : ∀ (w : World) (da' : Option Addr) (dl' dc' : Nat), Bs w da' dl' dc' (if a.data = true then ds.take m1 else []) → Bs w (if a.data = true then da' else none) (if a.data = true then dl' else 0) (if a.data = true then dc' else 0) (if a.data = true then ds.take m1 else []) := fun w da' dl' dc' h => by
      have := h.asked a.data
      rw [hda] at this
      exact this
    have HDAT := Lib.hid hdat
    clear hdat
    clear hda hxo hxp hxa hoa hpb hro hrp hEN1 hdo hdp hso1 hso2 hsp1 hsp2 hp1 hp2 hp3 hp4
    generalize (if a.path = true then p1 else []) = p5 at *
    generalize (if a.to = true then p2 else []) = t5 at *
    generalize (if a.fd = true then fo else 0) = f5 at *
    generalize (if a.part = true then ao else 0) = q5 at *
    generalize (if a.part = true then no else 0) = n5 at *
    generalize (if a.til = true then uo else 0) = u5 at *
    generalize (if a.snap = true then so else 0) = s5 at *
    generalize (if a.data = true then ds.take m1 else []) = e5 at *
    generalize (if a.data = true then da else none) = g5 at *
    generalize (if a.data = true then m1 else 0) = l5 at *
    generalize (if a.data = true then dc else 0) = y5 at *
    generalize (if a.path = true then p3 else []) = p6 at *
    generalize (if a.to = true then p4 else []) = t6 at *
    generalize (if a.fd = true then fp else 0) = f6 at *
    generalize (if a.part = true then ap else 0) = q6 at *
    generalize (if a.part = true then np else 0) = n6 at *
    generalize (if a.til = true then up else 0) = u6 at *
    generalize (if a.snap = true then sp else 0) = s6 at *
    generalize (if a.data = true then ds2.take m2 else []) = e6 at *
    generalize (if a.data = true then db else none) = g6 at *
    generalize (if a.data = true then m2 else 0) = l6 at *
    generalize (if a.data = true then dc2 else 0) = y6 at *
    have hbb : decide (ky = ky ∧ p5 = p6 ∧ t5 = t6 ∧ f5 = f6 ∧ q5 = q6 ∧ n5 = n6 ∧ u5 = u6 ∧ s5 = s6 ∧ e5 = e6) = ((strOf L1).toList == (strOf L2).toList) := by
      rw [strOf_toList, strOf_toList, Bool.eq_iff_iff, decide_eq_true_iff, beq_iff_eq, hiff]
      simp
    have HK2 := Lib.hid (fun (w : World) (h1 : Bs w g5 l5 y5 e5) (h2 : Bs w g6 l6 y6 e6) => keepop_any ky ky p5 p6 t5 t6 f5 f6 q5 q6 n5 n6 s5 s6 u5 u6 g5 g6 l5 l6 y5 y6 e5 e6 w h1 h2)
    rw [hbb] at HK2
    have HK3 := Lib.hid (fun (d1 d2 : Option Addr) (x1 x2 y1 y2 : Nat) (w : World) (h1 : Bs w d1 x1 y1 e5) (h2 : Bs w d2 x2 y2 e5) => keepop_any ky ky p5 p5 t5 t5 f5 f5 q5 q5 n5 n5 s5 s5 u5 u5 d1 d2 x1 x2 y1 y2 e5 e5 w h1 h2)
    rw [show decide (ky = ky ∧ p5 = p5 ∧ t5 = t5 ∧ f5 = f5 ∧ q5 = q5 ∧ n5 = n5 ∧ u5 = u5 ∧ s5 = s5 ∧ e5 = e5) = true from decide_eq_true ⟨rfl, rfl, rfl, rfl, rfl, rfl, rfl, rfl, rfl⟩] at HK3
    obtain ⟨bb, hb⟩ : ∃ bb, ((strOf L1).toList == (strOf L2).toList) = bb := ⟨_, rfl⟩
    rw [hb] at HK2
    have HBB := Lib.hid hb
    obtain ⟨N1, hN1⟩ : ∃ q, L1.length = q := ⟨_, rfl⟩
    have HN1L := Lib.hid hN1
    obtain ⟨E5, hE5l⟩ : ∃ q, e5.length = q := ⟨_, rfl⟩
    have HEL := Lib.hid hE5l
    obtain ⟨hb0, hhb⟩ := hhb
    have HHB := Lib.hid hhb
    rw [hN1] at hb0 hbl
    rw [show ((0 : Nat) : Int) = 0 from rfl] at HE1 HE2 HE3
    unfold ovCells at HE1 HE2 HE3 HAO HAP HAD HK2 HK3
    have Dc := cells_at hoF
    (try unfold ovCells at Dc)
    have c0 := Dc 0; have c1 := Dc 1; have c2 := Dc 2; have c3 := Dc 3; have c4 := Dc 4; have c5 := Dc 5; have c6 := Dc 6; have c7 := Dc 7; have c8 := Dc 8
    simp only [List.getElem?_toArray, List.getElem?_cons_zero, List.getElem?_cons_succ] at c0 c1 c2 c3 c4 c5 c6 c7 c8
    clear Dc
    have HO := Lib.hid hoF
    have HP := Lib.hid hpF
    have hDr2 := Lib.hid hDp
    clear hbb hiff hb hDo hoF hpF hE5l hhb HN1 HN2
    go_wp2_with fail
    refine HE1.out.mono ?_
    rintro e' w6 ⟨v6, rfl, ho6, hb6⟩
    have hE6 := hE.step hb6
    have hO := (hb6.block _ (lt_of_heap HO.out)).trans HO.out
    have hP := (hb6.block _ (lt_of_heap HP.out)).trans HP.out
    have hBo := hBo.below hb6
    have hBp := hBp.below hb6
    obtain ⟨a6, m6, rfl, hS1⟩ := ho6.bsn hN1
    clear c0 c1 c2 c3 c4 c5 c6 c7 c8 HO HP HE1 hE ho6 hDr2
    have HO := Lib.hid hO
    have HP := Lib.hid hP
    have Dc := cells_at hP
    (try unfold ovCells at Dc)
    have c0 := Dc 0; have c1 := Dc 1; have c2 := Dc 2; have c3 := Dc 3; have c4 := Dc 4; have c5 := Dc 5; have c6 := Dc 6; have c7 := Dc 7; have c8 := Dc 8
    simp only [List.getElem?_toArray, List.getElem?_cons_zero, List.getElem?_cons_succ] at c0 c1 c2 c3 c4 c5 c6 c7 c8
    clear Dc
    have hDq := hDp.below hb6
    clear hO hP hb6 hDp
    have HE2 := Lib.hid (HE2.out w6 hDq)
    clear hDq
    go_wp2_with fail
    refine HE2.out.mono ?_
    rintro e' w7 ⟨v7, rfl, ho7, hb7⟩
    have hE7 := hE6.step hb7
    have hO := (hb7.block _ (lt_of_heap HO.out)).trans HO.out
    have hP := (hb7.block _ (lt_of_heap HP.out)).trans HP.out
    have hBo := hBo.below hb7
    have hBp := hBp.below hb7
    have hS1 := hS1.below hb7
    obtain ⟨a7, m7, rfl, hS2⟩ := ho7.bs
    clear c0 c1 c2 c3 c4 c5 c6 c7 c8 HO HP HE2 hE6 ho7 hb7
    have HO := Lib.hid hO
    have HP := Lib.hid hP
    have Dc := cells_at hO
    (try unfold ovCells at Dc)
    have c0 := Dc 0; have c1 := Dc 1; have c2 := Dc 2; have c3 := Dc 3; have c4 := Dc 4; have c5 := Dc 5; have c6 := Dc 6; have c7 := Dc 7; have c8 := Dc 8
    simp only [List.getElem?_toArray, List.getElem?_cons_zero, List.getElem?_cons_succ] at c0 c1 c2 c3 c4 c5 c6 c7 c8
    clear Dc
    clear hO hP
    go_wp2_with fail
    refine (HAO.out _).mono ?_
    rintro e' w8 ⟨rfl, hb8⟩
    have hE8 := hE7.step hb8
    have hO := (hb8.block _ (lt_of_heap HO.out)).trans HO.out
    have hP := (hb8.block _ (lt_of_heap HP.out)).trans HP.out
    have hBo := hBo.below hb8
    have hBp := hBp.below hb8
    have hS1 := hS1.below hb8
    have hS2 := hS2.below hb8
    clear c0 c1 c2 c3 c4 c5 c6 c7 c8 HO HP hE7 hb8
    go_wp2_with fail
    refine (HE3.out _ g5 l5 y5 hBo).mono ?_
    rintro e' w9 ⟨v9, rfl, ho9, hb9⟩
    have hE9 := hE8.step hb9
    have hO := (hb9.block _ (lt_of_heap hO)).trans hO
    have hP := (hb9.block _ (lt_of_heap hP)).trans hP
    have hBo := hBo.below hb9
    have hBp := hBp.below hb9
    have hS1 := hS1.below hb9
    have hS2 := hS2.below hb9
    obtain ⟨a9, m9, rfl, hS3⟩ := ho9.bsn hN1
    clear HE3 hE8 ho9 hb9
    have z00 : ((0 : Int) != 0) = false := rfl
    have z0 : ((0 : Int) == 0) = true := rfl
    have zN : ((N1 : Int) == 0) = false := by simp; omega
    have s1 := run_string hS1
    have s3 := run_string hS3
    have z1 : (!(strOf L1).toList == (strOf L1).toList) = false := by rw [beq_self_eq_true]; rfl
    clear hN1 hS3
    have HDC := Lib.hid (opdec_any a6 N1 m6 L1 w9 hS1 (by unfold big; omega))
    unfold DecPost at HDC
    rw [hdd] at HDC
    unfold opCells at HDC
    simp only at HDC
    clear hdd
    go_wp2_with fail
    refine HDC.out.mono ?_
    rintro e' w10 ⟨⟨v10, rfl, ho10⟩, hb10⟩
    obtain ⟨a4, m4, rfl, hBX⟩ := ho10.bsn HEL.out
    have hAD2 := HAD.out a4 E5 m4
    have hBY := HDAT.out _ _ _ _ hBX
    generalize (if a.data = true then a4 else none) = g7 at *
    generalize (if a.data = true then E5 else 0) = l7 at *
    generalize (if a.data = true then m4 else 0) = y7 at *
    have HAD2 := Lib.hid hAD2
    clear hAD2
    have hE := hE9.step hb10
    have hO := (hb10.block _ (lt_of_heap hO)).trans hO
    have hP := (hb10.block _ (lt_of_heap hP)).trans hP
    have hBo := hBo.below hb10
    have hBp := hBp.below hb10
    have hS1 := hS1.below hb10
    have hS2 := hS2.below hb10
    have hX := heap_alloc_new w10 (.cells (ovCells ky (strOf p5) (strOf t5) f5 q5 n5 u5 s5 a4 E5 m4) 25)
    have hO := (Below.heap_alloc w10 (.cells (ovCells ky (strOf p5) (strOf t5) f5 q5 n5 u5 s5 a4 E5 m4) 25) _ (lt_of_heap hO)).trans hO
    have hP := (Below.heap_alloc w10 (.cells (ovCells ky (strOf p5) (strOf t5) f5 q5 n5 u5 s5 a4 E5 m4) 25) _ (lt_of_heap hP)).trans hP
    have hE := hE.alloc (.cells (ovCells ky (strOf p5) (strOf t5) f5 q5 n5 u5 s5 a4 E5 m4) 25)
    have hBX := hBX.alloc (.cells (ovCells ky (strOf p5) (strOf t5) f5 q5 n5 u5 s5 a4 E5 m4) 25)
    have hBY := hBY.alloc (.cells (ovCells ky (strOf p5) (strOf t5) f5 q5 n5 u5 s5 a4 E5 m4) 25)
    have hBo := hBo.alloc (.cells (ovCells ky (strOf p5) (strOf t5) f5 q5 n5 u5 s5 a4 E5 m4) 25)
    have hBp := hBp.alloc (.cells (ovCells ky (strOf p5) (strOf t5) f5 q5 n5 u5 s5 a4 E5 m4) 25)
    have hS1 := hS1.alloc (.cells (ovCells ky (strOf p5) (strOf t5) f5 q5 n5 u5 s5 a4 E5 m4) 25)
    have hS2 := hS2.alloc (.cells (ovCells ky (strOf p5) (strOf t5) f5 q5 n5 u5 s5 a4 E5 m4) 25)
    unfold ovCells at hX hO hP hE hBX hBY hBo hBp hS1 hS2
    clear ho10 hb10 HDC hE9 s1 s3
    go_upto_region 10 with fail
    generalize w10.alloc _ = w6 at *
    generalize w10.heap.size = X at *
    have hX : w6.drew.heap[X]? = _ := hX
    have hO : w6.drew.heap[H]? = _ := hO
    have hP : w6.drew.heap[H + 1]? = _ := hP
    have hE := hE.drew
    have hBX := hBX.drew
    have hBY := hBY.drew
    have hBo := hBo.drew
    have hBp := hBp.drew
    have hS1 := hS1.drew
    have hS2 := hS2.drew
    have hb' := HBB.out
    have zb : (bb == bb) = true := beq_self_eq_true bb
    obtain ⟨b, o, rfl, qA, hc⟩ := hS1.2.2.2.resolve_left (Nat.ne_of_gt hb0)
    have ca := hc 0 (by rw [HN1L.out]; exact hb0)
    rw [HHB.out, Nat.add_zero] at ca
    have hbN : (0 : Int) < (N1 : Int) := by omega
    have hkb := asksOf_range hka
    have hw8 : IntKind.i64.wrap ky = ky := IntWalk.i64_in _ (by omega)
    have zk : (ky == ky) = true := beq_self_eq_true ky
    clear hc hka hkb
    obtain ⟨wd, hwd⟩ : ∃ wd, wd = w6.drew := ⟨_, rfl⟩
    have hb : Below w6.heap.size w6 wd := by rw [hwd]; exact (Below.refl _ _).drew
    clear hb
    refine held_start (by kernel_rfl) (fun hHeld => ?_)
    rw [← hwd] at hHeld ⊢
    rw [← hwd] at hX hO hP hE hBX hBY hBo hBp hS1 hS2 ca qA
    clear hwd
    have hcx := cells_at hX
    have hco := cells_at hO
    have hcp := cells_at hP
    have x0 := hcx 0; have x1 := hcx 1; have x2 := hcx 2; have x3 := hcx 3; have x4 := hcx 4; have x5 := hcx 5; have x6 := hcx 6; have x7 := hcx 7; have x8 := hcx 8
    have c0 := hco 0; have c1 := hco 1; have c2 := hco 2; have c3 := hco 3; have c4 := hco 4; have c5 := hco 5; have c6 := hco 6; have c7 := hco 7; have c8 := hco 8
    have d0 := hcp 0; have d1 := hcp 1; have d2 := hcp 2; have d3 := hcp 3; have d4 := hcp 4; have d5 := hcp 5; have d6 := hcp 6; have d7 := hcp 7; have d8 := hcp 8
    (try unfold ovCells at c0 c1 c2 c3 c4 c5 c6 c7 c8 d0 d1 d2 d3 d4 d5 d6 d7 d8)
    simp only [List.getElem?_toArray, List.getElem?_cons_zero, List.getElem?_cons_succ] at x0 x1 x2 x3 x4 x5 x6 x7 x8 c0 c1 c2 c3 c4 c5 c6 c7 c8 d0 d1 d2 d3 d4 d5 d6 d7 d8
    have qX := lt_of_heap hX
    have qO := lt_of_heap hO
    have qP := lt_of_heap hP
    clear hcx hco hcp
    refine held_take (i := 0) (v := ?_) 68 rfl (by kernel_rfl) (by kernel_rfl) (by kernel_rfl) (fun _ _ _ h => h) rfl (by assumption) (Or.inl ⟨by rfl, ?_⟩) ?_
    rotate_left
    · intro w hSw; go_simp; (try with_reducible rfl)
    simp only [List.set_cons_zero, List.set_cons_succ]
    refine held_take (i := 1) (v := ?_) 69 rfl (by kernel_rfl) (by kernel_rfl) (by kernel_rfl) (fun _ _ _ h => h) rfl (by assumption) (Or.inl ⟨by rfl, ?_⟩) ?_
    rotate_left
    · intro w hSw; go_simp; (try with_reducible rfl)
    simp only [List.set_cons_zero, List.set_cons_succ]
    refine held_take (i := 2) (v := ?_) 70 rfl (by kernel_rfl) (by kernel_rfl) (by kernel_rfl) (fun _ _ _ h => h) rfl (by assumption) (Or.inl ⟨by rfl, ?_⟩) ?_
    rotate_left
    · intro w hSw; go_simp; (try with_reducible rfl)
    simp only [List.set_cons_zero, List.set_cons_succ]
    refine held_take (i := 3) (v := ?_) 71 rfl (by kernel_rfl) (by kernel_rfl) (by kernel_rfl) (fun _ _ _ h => h) rfl (by assumption) (Or.inl ⟨by rfl, ?_⟩) ?_
    rotate_left
    · intro w hSw; go_simp; (try with_reducible rfl)
    simp only [List.set_cons_zero, List.set_cons_succ]
    refine held_take (i := 4) (v := ?_) 72 rfl (by kernel_rfl) (by kernel_rfl) (by kernel_rfl) (fun _ _ _ h => h) rfl (by assumption) (Or.inl ⟨by rfl, ?_⟩) ?_
    rotate_left
    · intro w hSw; have hs := run_string (hS1.below hSw); go_simp; (try with_reducible rfl)
    simp only [List.set_cons_zero, List.set_cons_succ]
    refine held_take (i := 5) (v := ?_) 73 rfl (by kernel_rfl) (by kernel_rfl) (by kernel_rfl) (fun _ _ _ h => h) rfl (by assumption) (Or.inl ⟨by rfl, ?_⟩) ?_
    rotate_left
    · intro w hSw; go_simp; (try with_reducible rfl)
    simp only [List.set_cons_zero, List.set_cons_succ]
    refine held_take (i := 6) (v := ?_) 74 rfl (by kernel_rfl) (by kernel_rfl) (by kernel_rfl) (fun _ _ _ h => h) rfl (by assumption) (Or.inl ⟨by rfl, ?_⟩) ?_
    rotate_left
    · intro w hSw; have hs := run_string (hS2.below hSw); go_simp; (try with_reducible rfl)
    simp only [List.set_cons_zero, List.set_cons_succ]
    refine held_take (i := 7) (v := ?_) 75 rfl (by kernel_rfl) (by kernel_rfl) (by kernel_rfl) (fun _ _ _ h => h) rfl (by assumption) (Or.inl ⟨by rfl, ?_⟩) ?_
    rotate_left
    · intro w hSw; go_simp; (try with_reducible rfl)
    simp only [List.set_cons_zero, List.set_cons_succ]
    refine held_take (i := 8) (v := ?_) 76 rfl (by kernel_rfl) (by kernel_rfl) (by kernel_rfl) (fun _ _ _ h => h) rfl (by assumption) (Or.inl ⟨by rfl, ?_⟩) ?_
    rotate_left
    · intro w hSw; obtain ⟨hc, hf⟩ := bcell hSw; go_simp; (try with_reducible rfl)
    simp only [List.set_cons_zero, List.set_cons_succ]
    refine held_take (i := 10) (v := ?_) 78 rfl (by kernel_rfl) (by kernel_rfl) (by kernel_rfl) (fun _ _ _ h => h) rfl (by assumption) (Or.inl ⟨by rfl, ?_⟩) ?_
    rotate_left
    · intro w hSw; obtain ⟨hc, hf⟩ := bcell hSw; go_simp; (try with_reducible rfl)
    simp only [List.set_cons_zero, List.set_cons_succ]
    refine wpAnyH_ready (rs := [9]) (by kernel_rfl) (by simp) ?_
    refine (AllReadyH.cons rfl (fun K hK => ?_) AllReadyH.nil)
    go_simp
    refine (HAO.out _).mono ?_
    rintro e w1x ⟨rfl, hb⟩
    have hbt := HB.trans hHeld hb
    go_wp2_with fail
    refine hK.out _ _ hbt (fun _ => ?_)
    clear hK hHeld K
    have hHeld := hbt
    clear hb hbt
    refine wpAnyH_ready (rs := [11]) (by kernel_rfl) (by simp) ?_
    refine (AllReadyH.cons rfl (fun K hK => ?_) AllReadyH.nil)
    go_simp
    refine (HAP.out _).mono ?_
    rintro e w2x ⟨rfl, hb⟩
    have hbt := HB.trans hHeld hb
    go_wp2_with fail
    refine hK.out _ _ hbt (fun _ => ?_)
    clear hK hHeld K
    have hHeld := hbt
    clear hb hbt
    refine wpAnyH_ready (rs := [12]) (by kernel_rfl) (by simp) ?_
    refine (AllReadyH.cons rfl (fun K hK => ?_) AllReadyH.nil)
    go_simp
    refine (HK2.out _ (hBo.below hHeld) (hBp.below hHeld)).mono ?_
    rintro e w3x ⟨rfl, hb⟩
    have hbt := HB.trans hHeld hb
    go_wp2_with fail
    refine hK.out _ _ hbt (fun _ => ?_)
    clear hK hHeld K
    have hHeld := hbt
    clear hb hbt
    refine held_take (i := 13) (v := ?_) 81 rfl (by kernel_rfl) (by kernel_rfl) (by kernel_rfl) (fun _ _ _ h => h) rfl (by assumption) (Or.inl ⟨by rfl, ?_⟩) ?_
    rotate_left
    · intro w hSw; go_simp; (try with_reducible rfl)
    simp only [List.set_cons_zero, List.set_cons_succ]
    refine held_take (i := 14) (v := ?_) 82 rfl (by kernel_rfl) (by kernel_rfl) (by kernel_rfl) (fun _ _ _ h => h) rfl (by assumption) (Or.inl ⟨by rfl, ?_⟩) ?_
    rotate_left
    · intro w hSw; go_simp; (try with_reducible rfl)
    simp only [List.set_cons_zero, List.set_cons_succ]
    refine held_take (i := 15) (v := ?_) 83 rfl (by kernel_rfl) (by kernel_rfl) (by kernel_rfl) (fun _ _ _ h => h) rfl (by assumption) (Or.inl ⟨by rfl, ?_⟩) ?_
    rotate_left
    · intro w hSw; go_simp; (try with_reducible rfl)
    simp only [List.set_cons_zero, List.set_cons_succ]
    refine held_take (i := 16) (v := ?_) 84 rfl (by kernel_rfl) (by kernel_rfl) (by kernel_rfl) (fun _ _ _ h => h) rfl (by assumption) (Or.inl ⟨by rfl, ?_⟩) ?_
    rotate_left
    · intro w hSw; obtain ⟨hc, hf⟩ := bcell hSw; go_simp; (try with_reducible rfl)
    simp only [List.set_cons_zero, List.set_cons_succ]
    refine held_take (i := 17) (v := ?_) 85 rfl (by kernel_rfl) (by kernel_rfl) (by kernel_rfl) (fun _ _ _ h => h) rfl (by assumption) (Or.inl ⟨by rfl, ?_⟩) ?_
    rotate_left
    · intro w hSw; obtain ⟨hc, hf⟩ := bcell hSw; go_simp; (try with_reducible rfl)
    simp only [List.set_cons_zero, List.set_cons_succ]
    refine wpAnyH_ready (rs := [18]) (by kernel_rfl) (by simp) ?_
    refine (AllReadyH.cons rfl (fun K hK => ?_) AllReadyH.nil)
    go_simp
    refine (HAD2.out _).mono ?_
    rintro e w4x ⟨rfl, hb⟩
    have hbt := HB.trans hHeld hb
    go_wp2_with fail
    refine hK.out _ _ hbt (fun _ => ?_)
    clear hK hHeld K
    have hHeld := hbt
    clear hb hbt
    refine wpAnyH_ready (rs := [19]) (by kernel_rfl) (by simp) ?_
    refine (AllReadyH.cons rfl (fun K hK => ?_) AllReadyH.nil)
    go_simp
    refine (HK3.out _ _ _ _ _ _ _ (hBX.below hHeld) (hBY.below hHeld)).mono ?_
    rintro e w5x ⟨rfl, hb⟩
    have hbt := HB.trans hHeld hb
    go_wp2_with fail
    refine hK.out _ _ hbt (fun _ => ?_)
    clear hK hHeld K
    have hHeld := hbt
    clear hb hbt
    refine held_take (i := 20) (v := ?_) 88 rfl (by kernel_rfl) (by kernel_rfl) (by kernel_rfl) (fun _ _ _ h => h) rfl (by assumption) (Or.inl ⟨by rfl, ?_⟩) ?_
    rotate_left
    · intro w hSw; go_simp; (try with_reducible rfl)
    simp only [List.set_cons_zero, List.set_cons_succ]
    refine held_take (i := 21) (v := ?_) 89 rfl (by kernel_rfl) (by kernel_rfl) (by kernel_rfl) (fun _ _ _ h => h) rfl (by assumption) (Or.inl ⟨by rfl, ?_⟩) ?_
    rotate_left
    · intro w hSw; go_simp; (try with_reducible rfl)
    simp only [List.set_cons_zero, List.set_cons_succ]
    refine held_take (i := 22) (v := ?_) 90 rfl (by kernel_rfl) (by kernel_rfl) (by kernel_rfl) (fun _ _ _ h => h) rfl (by assumption) (Or.inl ⟨by rfl, ?_⟩) ?_
    rotate_left
    · intro w hSw; go_simp; (try with_reducible rfl)
    simp only [List.set_cons_zero, List.set_cons_succ]
    refine held_take (i := 23) (v := ?_) 91 rfl (by kernel_rfl) (by kernel_rfl) (by kernel_rfl) (fun _ _ _ h => h) rfl (by assumption) (Or.inl ⟨by rfl, ?_⟩) ?_
    rotate_left
    · intro w hSw; go_simp; (try with_reducible rfl)
    simp only [List.set_cons_zero, List.set_cons_succ]
    refine held_take (i := 24) (v := ?_) 92 rfl (by kernel_rfl) (by kernel_rfl) (by kernel_rfl) (fun _ _ _ h => h) rfl (by assumption) (Or.inl ⟨by rfl, ?_⟩) ?_
    rotate_left
    · intro w hSw; obtain ⟨hc, hf⟩ := bcell hSw; go_simp; (try with_reducible rfl)
    simp only [List.set_cons_zero, List.set_cons_succ]
    refine held_take (i := 25) (v := ?_) 93 rfl (by kernel_rfl) (by kernel_rfl) (by kernel_rfl) (fun _ _ _ h => h) rfl (by assumption) (Or.inl ⟨by rfl, ?_⟩) ?_
    rotate_left
    · intro w hSw; go_simp; (try with_reducible rfl)
    simp only [List.set_cons_zero, List.set_cons_succ]
    refine held_take (i := 26) (v := ?_) 94 rfl (by kernel_rfl) (by kernel_rfl) (by kernel_rfl) (fun _ _ _ h => h) rfl (by assumption) (Or.inl ⟨by rfl, ?_⟩) ?_
    rotate_left
    · intro w hSw; go_simp; (try with_reducible rfl)
    simp only [List.set_cons_zero, List.set_cons_succ]
    refine held_take (i := 27) (v := ?_) 95 rfl (by kernel_rfl) (by kernel_rfl) (by kernel_rfl) (fun _ _ _ h => h) rfl (by assumption) (Or.inl ⟨by rfl, ?_⟩) ?_
    rotate_left
    · intro w hSw; obtain ⟨hc, hf⟩ := bcell hSw; go_simp; (try with_reducible rfl)
    simp only [List.set_cons_zero, List.set_cons_succ]
    refine held_take (i := 28) (v := ?_) 96 rfl (by kernel_rfl) (by kernel_rfl) (by kernel_rfl) (fun _ _ _ h => h) rfl (by assumption) (Or.inl ⟨by rfl, ?_⟩) ?_
    rotate_left
    · intro w hSw; go_simp; (try with_reducible rfl)
    simp only [List.set_cons_zero, List.set_cons_succ]
    refine held_take (i := 29) (v := ?_) 97 rfl (by kernel_rfl) (by kernel_rfl) (by kernel_rfl) (fun _ _ _ h => h) rfl (by assumption) (Or.inl ⟨by rfl, ?_⟩) ?_
    rotate_left
    · intro w hSw; go_simp; (try with_reducible rfl)
    simp only [List.set_cons_zero, List.set_cons_succ]
    refine held_take (i := 30) (v := ?_) 98 rfl (by kernel_rfl) (by kernel_rfl) (by kernel_rfl) (fun _ _ _ h => h) rfl (by assumption) (Or.inl ⟨by rfl, ?_⟩) ?_
    rotate_left
    · intro w hSw; go_simp; (try with_reducible rfl)
    simp only [List.set_cons_zero, List.set_cons_succ]
    refine wpAnyH_ready (rs := [31]) (by kernel_rfl) (by simp) ?_
    refine (AllReadyH.cons rfl (fun K hK => ?_) AllReadyH.nil)
    go_simp
    refine (law15_known _).mono ?_
    rintro e w6x ⟨rfl, hb⟩
    have hbt := HB.trans hHeld hb
    go_wp2_with fail
    refine hK.out _ _ hbt (fun _ => ?_)
    clear hK hHeld K
    have hHeld := hbt
    clear hb hbt
    refine held_take (i := 32) (v := ?_) 100 rfl (by kernel_rfl) (by kernel_rfl) (by kernel_rfl) (fun _ _ _ h => h) rfl (by assumption) (Or.inl ⟨by rfl, ?_⟩) ?_
    rotate_left
    · intro w hSw; go_simp; (try with_reducible rfl)
    simp only [List.set_cons_zero, List.set_cons_succ]
    refine held_take (i := 33) (v := ?_) 4 rfl (by kernel_rfl) (by kernel_rfl) (by kernel_rfl) (fun _ _ _ h => h) rfl (by assumption) (Or.inl ⟨by rfl, ?_⟩) ?_
    rotate_left
    · intro w hSw; go_simp; (try with_reducible rfl)
    simp only [List.set_cons_zero, List.set_cons_succ]
    refine wpAnyH_done (by kernel_rfl) ?_ _
    go_wp2_with fail
    go_ret
    rw [← HH.out]
    exact ⟨rfl, (hE.step hHeld).1⟩
end Go.Proofs.Ytphjdlckoddgmaa
