/- The walk of OpBack. -/
import Derived.Test.YtphjdlckoddgmaaOpBackLaw
import Derived.Test.YtphjdlckoddgmaaRpLaw
import Derived.Test.YtphjdlckoddgmaaRpArg
import Derived.Test.YtphjdlckoddgmaaOpTame
import Derived.Test.YtphjdlckoddgmaaHeldB
import Derived.Deep.DeepCutAuto
namespace Go.Proofs.Ytphjdlckoddgmaa
open Go.RowKit

theorem Rp.bytes_bd2 (r : Rp) (h : r.Fine) : 0 < r.bytes.length ∧ r.bytes.length ≤ 80000 := by
  obtain ⟨⟨_, _, _, _, h5⟩, h6, _⟩ := h
  have h1 := namesBytes_len r.names h6
  have h2 := lenBytes_le r.dat
  have h3 : r.tail.length ≤ 20 := by
    unfold Rp.tail
    split
    · simp
    · have : (lenBytes r.node.bytes).length ≤ 18 := by simp [lenBytes, be_length, Nd.bytes_length]
      simp only [List.length_append, List.length_cons, List.length_nil]
      omega
  rw [Rp.bytes_eq]
  unfold Rp.head
  simp only [List.length_append, be_length]
  omega

set_option maxHeartbeats 8000000 in
set_option maxRecDepth 100000 in
theorem OpBack_walk (v0 : Value) (v1 : Value) (v2 : Value) (v3 : Value) (w : World) (h0 : Arg Try.prog w 25 v0) (h1 : Arg Try.prog w 25 v1) (h2 : Arg Try.prog w 45 v2) (h3 : Arg Try.prog w 23 v3) :
    Calls Try.prog 7 #[v0, v1, v2, v3] w fun e w' => e = .returned (.bool true) ∧ Below w.heap.size w w' := by
  obtain ⟨k, ps, ts, fd, at_, n, til, sn, da, dl, dc, ds, rfl, htil, hB⟩ := h0.op
  obtain ⟨k2, ps2, ts2, fd2, at2, n2, til2, sn2, db, dl2, dc2, ds2, rfl, htil2, hB2⟩ := h1.op
  obtain ⟨er, n3, ra, rl, rc, rs, na, nl, nc, ls, nd, rfl, hBr, hS, hndt, _, _⟩ := h2.reply
  obtain ⟨ax, lx, cx, xs, rfl, hBx⟩ := h3.bytes Try.underlying23 Try.underlying5 (by kernel_rfl)
  clear h0 h1 h2 h3
  have hlc := hB.2.1
  have hlc2 := hB2.2.1
  have hlcx := hBx.2.1
  obtain ⟨H, hH⟩ : ∃ H, H = w.heap.size := ⟨_, rfl⟩
  have HH := Lib.hid hH
  have hD : ∀ W, Ext H w W → Bs W da dl dc ds := fun W hb => hb.bs hH.symm hB
  have hD2 : ∀ W, Ext H w W → Bs W db dl2 dc2 ds2 := fun W hb => hb.bs hH.symm hB2
  have hDr : ∀ W, Ext H w W → Bs W ra rl rc rs := fun W hb => hb.bs hH.symm hBr
  have hDx : ∀ W, Ext H w W → Bs W ax lx cx xs := fun W hb => hb.bs hH.symm hBx
  have hDs : ∀ W, Ext H w W → Ss W na nl nc ls := fun W hb => hS.below (by rw [← hH]; exact hb.1)
  have HBA := Lib.hid (And.intro hD (And.intro hD2 (And.intro hDr (And.intro hDx hDs))))
  have HLR := Lib.hid (And.intro hBr.1 hS.1)
  clear hD hD2 hDr hDx hDs hB hB2 hBr hBx hS
  obtain ⟨wA, hwA⟩ : ∃ W, W = w.alloc (.cells (ovCells k (strOf ps) (strOf ts) fd at_ n til sn da dl dc) 25) := ⟨_, rfl⟩
  obtain ⟨wB, hwB⟩ : ∃ W, W = wA.alloc (.cells (ovCells k2 (strOf ps2) (strOf ts2) fd2 at2 n2 til2 sn2 db dl2 dc2) 25) := ⟨_, rfl⟩
  obtain ⟨wC, hwC⟩ : ∃ W, W = wB.alloc (.cells (rpCells er n3 ra rl rc na nl nc nd) 45) := ⟨_, rfl⟩
  have hsA : wA.heap.size = H + 1 := by rw [hwA, hH]; simp
  have hsB : wB.heap.size = H + 1 + 1 := by rw [hwB]; simp [hsA]
  have hoA : wA.heap[H]? = some (.cells (ovCells k (strOf ps) (strOf ts) fd at_ n til sn da dl dc) 25 (0, 0)) := by rw [hwA, hH]; exact heap_alloc_new w _
  have hoB : wB.heap[H]? = some (.cells (ovCells k (strOf ps) (strOf ts) fd at_ n til sn da dl dc) 25 (0, 0)) := by rw [hwB]; exact (Below.heap_alloc wA _ _ (lt_of_heap hoA)).trans hoA
  have hoC : wC.heap[H]? = some (.cells (ovCells k (strOf ps) (strOf ts) fd at_ n til sn da dl dc) 25 (0, 0)) := by rw [hwC]; exact (Below.heap_alloc wB _ _ (lt_of_heap hoB)).trans hoB
  have hpB : wB.heap[H + 1]? = some (.cells (ovCells k2 (strOf ps2) (strOf ts2) fd2 at2 n2 til2 sn2 db dl2 dc2) 25 (0, 0)) := by rw [hwB, ← hsA]; exact heap_alloc_new wA _
  have hpC : wC.heap[H + 1]? = some (.cells (ovCells k2 (strOf ps2) (strOf ts2) fd2 at2 n2 til2 sn2 db dl2 dc2) 25 (0, 0)) := by rw [hwC]; exact (Below.heap_alloc wB _ _ (lt_of_heap hpB)).trans hpB
  have hrC : wC.heap[H + 1 + 1]? = some (.cells (rpCells er n3 ra rl rc na nl nc nd) 45 (0, 0)) := by rw [hwC, ← hsB]; exact heap_alloc_new wB _
  have hEC : Ext H w wC := by
    rw [hwC, hwB, hwA, hH]
    exact (((Ext.refl w).alloc _).alloc _).alloc _
  have HW := Lib.hid (And.intro hwA (And.intro hwB hwC))
  have HS1 := Lib.hid (fun w => short_any k ps ts fd at_ n til sn da dl dc hlc w)
  have HS2 := Lib.hid (fun w => short_any k2 ps2 ts2 fd2 at2 n2 til2 sn2 db dl2 dc2 hlc2 w)
  have hm1 : min dl 610 ≤ dl := Nat.min_le_left _ _
  have hm2 : min dl2 610 ≤ dl2 := Nat.min_le_left _ _
  generalize hps1 : ps.take 210 = ps1 at *
  generalize hts1 : ts.take 210 = ts1 at *
  generalize hps3 : ps2.take 210 = ps3 at *
  generalize hts3 : ts2.take 210 = ts3 at *
  generalize min dl 610 = m1 at *
  generalize min dl2 610 = m2 at *
  clear hwA hwB hwC hsA hsB hoA hoB hpB hps1 hts1 hps3 hts3
  unfold ovCells at *
  unfold rpCells at *
  go_enter Try.func7, Try.ntmps7
  go_upto_region 1 with fail
  rw [← HW.out.1, ← HW.out.2.1, ← HW.out.2.2, ← hH]
  clear hH HW
  have HO := Lib.hid hoC
  have HP := Lib.hid hpC
  have HR := Lib.hid hrC
  have Dd := cells_at hpC
  (try unfold ovCells at Dd)
  have d0 := Dd 0; have d1 := Dd 1; have d2 := Dd 2; have d3 := Dd 3; have d4 := Dd 4; have d5 := Dd 5; have d6 := Dd 6; have d7 := Dd 7; have d8 := Dd 8
  simp only [List.getElem?_toArray, List.getElem?_cons_zero, List.getElem?_cons_succ] at d0 d1 d2 d3 d4 d5 d6 d7 d8
  clear Dd
  clear hoC hpC hrC
  go_cut [] (fun wx => wx.heap[H]? = some (.cells (ovCells k (strOf ps1) (strOf ts1) fd at_ n til sn da m1 dc) 25 (0, 0)) ∧ wx.heap[H + 1]? = some (.cells (ovCells k2 (strOf ps3) (strOf ts3) fd2 at2 n2 til2 sn2 db m2 dc2) 25 (0, 0)) ∧ wx.heap[H + 1 + 1]? = some (.cells (rpCells er n3 ra rl rc na nl nc nd) 45 (0, 0)) ∧ Ext H w wx)
  case first =>
    refine heldB_start (fun i => [0, 1, 2, 4].contains i) (fun w' => w'.cell? ⟨H + 1, 0, none⟩ = some (.int .i64 k2) ∧ w'.cell? ⟨H + 1, 1, none⟩ = some (.string (strOf ps2)) ∧ w'.cell? ⟨H + 1, 2, none⟩ = some (.string (strOf ts2)) ∧ w'.cell? ⟨H + 1, 3, none⟩ = some (.int .i64 fd2) ∧ w'.cell? ⟨H + 1, 4, none⟩ = some (.int .i64 at2) ∧ w'.cell? ⟨H + 1, 5, none⟩ = some (.int .i64 n2) ∧ w'.cell? ⟨H + 1, 6, none⟩ = some (.int .u64 (til2 : Int)) ∧ w'.cell? ⟨H + 1, 7, none⟩ = some (.int .i64 sn2) ∧ w'.cell? ⟨H + 1, 8, none⟩ = some (.slice db dl2 dc2)) (by kernel_rfl) ?_ (fun hHeld => ?_)
    · go_keep
    have hoC : wC.drew.heap[H]? = _ := HO.out
    have hpC : wC.drew.heap[H + 1]? = _ := HP.out
    have hrC : wC.drew.heap[H + 1 + 1]? = _ := HR.out
    have hEC := hEC.drew
    clear d0 d1 d2 d3 d4 d5 d6 d7 d8 HO HP HR
    generalize wC.drew = w1 at *
    refine heldB_take (i := 2) (v := ?_) 25 rfl (by kernel_rfl) (by kernel_rfl) (by kernel_rfl) (by kernel_rfl) (fun _ _ _ h => h) rfl (by assumption) (Or.inl ⟨by rfl, ?_⟩) ?_
    rotate_left
    · intro w hSw; (try dsimp only at hSw); go_simp; (try with_reducible rfl)
    simp only [List.set_cons_zero, List.set_cons_succ]
    have HO := Lib.hid hoC
    have HP := Lib.hid hpC
    have HR := Lib.hid hrC
    have Dc := cells_at hoC
    (try unfold ovCells at Dc)
    have c0 := Dc 0; have c1 := Dc 1; have c2 := Dc 2; have c3 := Dc 3; have c4 := Dc 4; have c5 := Dc 5; have c6 := Dc 6; have c7 := Dc 7; have c8 := Dc 8
    simp only [List.getElem?_toArray, List.getElem?_cons_zero, List.getElem?_cons_succ] at c0 c1 c2 c3 c4 c5 c6 c7 c8
    clear Dc
    clear hoC hpC hrC
    refine heldB_one 0 (by kernel_rfl) rfl (fun K hK => ?_)
    go_simp
    refine hK.out _ _ (fun _ => hHeld) ?_
    clear hK K c0 c1 c2 c3 c4 c5 c6 c7 c8
    refine heldB_one 1 (by kernel_rfl) rfl (fun K hK => ?_)
    go_simp
    refine (HS1.out _).mono ?_
    rintro e' w2 ⟨rfl, hb2⟩
    have hE2 := hEC.step hb2
    have hoC := (hb2.block _ (lt_of_heap HO.out)).trans HO.out
    have hpC := (hb2.block _ (lt_of_heap HP.out)).trans HP.out
    have hrC := (hb2.block _ (lt_of_heap HR.out)).trans HR.out
    clear HO HP HR hEC hHeld hb2 HS1
    have HP := Lib.hid hpC
    have Dd := cells_at hpC
    (try unfold ovCells at Dd)
    have d0 := Dd 0; have d1 := Dd 1; have d2 := Dd 2; have d3 := Dd 3; have d4 := Dd 4; have d5 := Dd 5; have d6 := Dd 6; have d7 := Dd 7; have d8 := Dd 8
    simp only [List.getElem?_toArray, List.getElem?_cons_zero, List.getElem?_cons_succ] at d0 d1 d2 d3 d4 d5 d6 d7 d8
    clear Dd
    go_wp2_with fail
    refine hK.out _ _ (fun _ => ⟨d0, d1, d2, d3, d4, d5, d6, d7, d8⟩) ?_
    clear hK K d0 d1 d2 d3 d4 d5 d6 d7 d8
    refine heldB_one 3 (by kernel_rfl) rfl (fun K hK => ?_)
    go_simp
    refine (HS2.out _).mono ?_
    rintro e' w3 ⟨rfl, hb3⟩
    have hE3 := hE2.step hb3
    have hoC := (hb3.block _ (lt_of_heap hoC)).trans hoC
    have hpC := (hb3.block _ (lt_of_heap hpC)).trans hpC
    have hrC := (hb3.block _ (lt_of_heap hrC)).trans hrC
    clear HP hE2 hb3 HS2
    go_wp2_with fail
    refine hK.out _ _ (fun h => by simp at h) ?_
    clear hK K
    refine heldB_one 4 (by kernel_rfl) rfl (fun K hK => ?_)
    have Dc := cells_at hoC
    (try unfold ovCells at Dc)
    have c0 := Dc 0; have c1 := Dc 1; have c2 := Dc 2; have c3 := Dc 3; have c4 := Dc 4; have c5 := Dc 5; have c6 := Dc 6; have c7 := Dc 7; have c8 := Dc 8
    simp only [List.getElem?_toArray, List.getElem?_cons_zero, List.getElem?_cons_succ] at c0 c1 c2 c3 c4 c5 c6 c7 c8
    clear Dc
    have f := frozen_at hoC
    have f0 := f 0; have f1 := f 1; have f2 := f 2; have f3 := f 3; have f4 := f 4; have f5 := f 5; have f6 := f 6; have f7 := f 7; have f8 := f 8
    clear f
    have hne : H + 1 ≠ H := by omega
    have hne2 : H + 1 + 1 ≠ H := by omega
    have hoD := put9 (v0 := .int .i64 k) (v1 := .string (strOf ps1)) (v2 := .string (strOf ts1)) (v3 := .int .i64 fd) (v4 := .int .i64 at_) (v5 := .int .i64 n) (v6 := .int .u64 (til : Int)) (v7 := .int .i64 sn) (v8 := .slice da m1 dc) hoC
    have hpD := far9 (Z := H) (v0 := .int .i64 k) (v1 := .string (strOf ps1)) (v2 := .string (strOf ts1)) (v3 := .int .i64 fd) (v4 := .int .i64 at_) (v5 := .int .i64 n) (v6 := .int .u64 (til : Int)) (v7 := .int .i64 sn) (v8 := .slice da m1 dc) hpC hne
    have hrD := far9 (Z := H) (v0 := .int .i64 k) (v1 := .string (strOf ps1)) (v2 := .string (strOf ts1)) (v3 := .int .i64 fd) (v4 := .int .i64 at_) (v5 := .int .i64 n) (v6 := .int .u64 (til : Int)) (v7 := .int .i64 sn) (v8 := .slice da m1 dc) hrC hne2
    have hED := ext9 hE3 (Nat.le_refl H) (.int .i64 k) (.string (strOf ps1)) (.string (strOf ts1)) (.int .i64 fd) (.int .i64 at_) (.int .i64 n) (.int .u64 (til : Int)) (.int .i64 sn) (.slice da m1 dc)
    clear hoC hpC hrC hE3
    go_simp
    generalize World.setCell _ ⟨H, 8, none⟩ _ = w4 at *
    clear c0 c1 c2 c3 c4 c5 c6 c7 c8 f0 f1 f2 f3 f4 f5 f6 f7 f8
    have Dd := cells_at hpD
    (try unfold ovCells at Dd)
    have d0 := Dd 0; have d1 := Dd 1; have d2 := Dd 2; have d3 := Dd 3; have d4 := Dd 4; have d5 := Dd 5; have d6 := Dd 6; have d7 := Dd 7; have d8 := Dd 8
    simp only [List.getElem?_toArray, List.getElem?_cons_zero, List.getElem?_cons_succ] at d0 d1 d2 d3 d4 d5 d6 d7 d8
    clear Dd
    refine hK.out _ _ (fun _ => ⟨d0, d1, d2, d3, d4, d5, d6, d7, d8⟩) ?_
    clear hK K
    refine heldB_one 5 (by kernel_rfl) rfl (fun K hK => ?_)
    have f := frozen_at hpD
    have f0 := f 0; have f1 := f 1; have f2 := f 2; have f3 := f 3; have f4 := f 4; have f5 := f 5; have f6 := f 6; have f7 := f 7; have f8 := f 8
    clear f
    have hne3 : H ≠ H + 1 := by omega
    have hne4 : H + 1 + 1 ≠ H + 1 := by omega
    have hpE := put9 (v0 := .int .i64 k2) (v1 := .string (strOf ps3)) (v2 := .string (strOf ts3)) (v3 := .int .i64 fd2) (v4 := .int .i64 at2) (v5 := .int .i64 n2) (v6 := .int .u64 (til2 : Int)) (v7 := .int .i64 sn2) (v8 := .slice db m2 dc2) hpD
    have hoE := far9 (Z := H + 1) (v0 := .int .i64 k2) (v1 := .string (strOf ps3)) (v2 := .string (strOf ts3)) (v3 := .int .i64 fd2) (v4 := .int .i64 at2) (v5 := .int .i64 n2) (v6 := .int .u64 (til2 : Int)) (v7 := .int .i64 sn2) (v8 := .slice db m2 dc2) hoD hne3
    have hrE := far9 (Z := H + 1) (v0 := .int .i64 k2) (v1 := .string (strOf ps3)) (v2 := .string (strOf ts3)) (v3 := .int .i64 fd2) (v4 := .int .i64 at2) (v5 := .int .i64 n2) (v6 := .int .u64 (til2 : Int)) (v7 := .int .i64 sn2) (v8 := .slice db m2 dc2) hrD hne4
    have hEE := ext9 hED (Nat.le_succ H) (.int .i64 k2) (.string (strOf ps3)) (.string (strOf ts3)) (.int .i64 fd2) (.int .i64 at2) (.int .i64 n2) (.int .u64 (til2 : Int)) (.int .i64 sn2) (.slice db m2 dc2)
    have HALL := Lib.hid (And.intro hoE (And.intro hpE (And.intro hrE hEE)))
    clear hoD hpD hrD hED hoE hpE hrE hEE
    go_simp
    refine hK.out _ _ (fun h => by simp at h) ?_
    clear hK K d0 d1 d2 d3 d4 d5 d6 d7 d8 f0 f1 f2 f3 f4 f5 f6 f7 f8
    refine heldB_done (by kernel_rfl) ?_ _
    go_wp2_with fail
    go_meet
    exact HALL.out
  case rest =>
    obtain ⟨hO, hP, hR, hE⟩ := hcut
    clear HO HP HR hEC d0 d1 d2 d3 d4 d5 d6 d7 d8 HS1 HS2
    have HR := Lib.hid hR
    have hDo := (HBA.out.1 _ hE).take hm1
    have HE1 := Lib.hid (openc_any k ps1 ts1 fd at_ n til sn da m1 dc _ wc hDo)
    have HI1 := Lib.hid (fun h => opEnc_inv ⟨k, ps1, ts1, fd, at_, n, til, sn, ds.take m1⟩ h)
    have hlen1 := opEnc_len ⟨k, ps1, ts1, fd, at_, n, til, sn, ds.take m1⟩
    unfold ovCells at HE1
    generalize hee1 : opEnc ⟨k, ps1, ts1, fd, at_, n, til, sn, ds.take m1⟩ = E1 at *
    have HEE1 := Lib.hid hee1
    obtain ⟨L1, r1⟩ := E1
    simp only at HE1 HI1 hlen1
    clear hDo hee1 hR
    have HO := Lib.hid hO
    have HP := Lib.hid hP
    have Dc := cells_at hO
    (try unfold ovCells at Dc)
    have c0 := Dc 0; have c1 := Dc 1; have c2 := Dc 2; have c3 := Dc 3; have c4 := Dc 4; have c5 := Dc 5; have c6 := Dc 6; have c7 := Dc 7; have c8 := Dc 8
    simp only [List.getElem?_toArray, List.getElem?_cons_zero, List.getElem?_cons_succ] at c0 c1 c2 c3 c4 c5 c6 c7 c8
    clear Dc
    clear hO hP
    go_wp2_with fail
    refine HE1.out.mono ?_
    rintro e' w2 ⟨v2, rfl, ho2, hb2⟩
    have hE2 := hE.step hb2
    have hO := (hb2.block _ (lt_of_heap HO.out)).trans HO.out
    have hP := (hb2.block _ (lt_of_heap HP.out)).trans HP.out
    have hR := (hb2.block _ (lt_of_heap HR.out)).trans HR.out
    obtain ⟨a1, z1, rfl, hS1⟩ := ho2.bs
    clear c0 c1 c2 c3 c4 c5 c6 c7 c8 HO HP HR HE1 hE ho2 hb2
    have HR := Lib.hid hR
    have hDp := (HBA.out.2.1 _ hE2).take hm2
    have HE2 := Lib.hid (openc_any k2 ps3 ts3 fd2 at2 n2 til2 sn2 db m2 dc2 _ w2 hDp)
    have HI2 := Lib.hid (fun h => opEnc_inv ⟨k2, ps3, ts3, fd2, at2, n2, til2, sn2, ds2.take m2⟩ h)
    have hlen2 := opEnc_len ⟨k2, ps3, ts3, fd2, at2, n2, til2, sn2, ds2.take m2⟩
    unfold ovCells at HE2
    generalize opEnc ⟨k2, ps3, ts3, fd2, at2, n2, til2, sn2, ds2.take m2⟩ = E2 at *
    obtain ⟨L2, r2⟩ := E2
    simp only at HE2 HI2 hlen2
    have HO := Lib.hid hO
    have HP := Lib.hid hP
    have Dc := cells_at hP
    (try unfold ovCells at Dc)
    have c0 := Dc 0; have c1 := Dc 1; have c2 := Dc 2; have c3 := Dc 3; have c4 := Dc 4; have c5 := Dc 5; have c6 := Dc 6; have c7 := Dc 7; have c8 := Dc 8
    simp only [List.getElem?_toArray, List.getElem?_cons_zero, List.getElem?_cons_succ] at c0 c1 c2 c3 c4 c5 c6 c7 c8
    clear Dc
    clear hDp hO hP hR
    go_wp2_with fail
    refine HE2.out.mono ?_
    rintro e' w3 ⟨v3, rfl, ho3, hb3⟩
    have hE3 := hE2.step hb3
    have hO := (hb3.block _ (lt_of_heap HO.out)).trans HO.out
    have hP := (hb3.block _ (lt_of_heap HP.out)).trans HP.out
    have hR := (hb3.block _ (lt_of_heap HR.out)).trans HR.out
    have hS1 := hS1.below hb3
    obtain ⟨a2, z2, rfl, hS2⟩ := ho3.bs
    clear c0 c1 c2 c3 c4 c5 c6 c7 c8 HO HP HR HE2 hE2 ho3 hb3
    go_upto_if 38 with fail
    go_cut [] (fun wx => wx.heap[H + 1 + 1]? = some (.cells (rpCells er n3 ra rl rc na nl nc nd) 45 (0, 0)) ∧ Ext H w wx)
    case first =>
      by_cases hr1 : r1 = 0
      · obtain ⟨a, hka, hra, hEa⟩ := HI1.out hr1
        subst hr1
        rw [show ((0 : Nat) : Int) = 0 from rfl]
        have hd1 : opDec L1 = (Ov.asked ⟨k, ps1, ts1, fd, at_, n, til, sn, ds.take m1⟩ a, 0) := by
          have e1 : L1 = Ov.bytes ⟨k, ps1, ts1, fd, at_, n, til, sn, ds.take m1⟩ a := congrArg Prod.fst hEa
          rw [e1]
          exact opDec_ok _ a hka hra htil
        have HDC := Lib.hid (opdec_any a1 L1.length z1 L1 w3 hS1 (by unfold big; omega))
        unfold DecPost at HDC
        rw [hd1] at HDC
        have z0 : ((0 : Int) == 0) = true := rfl
        have z00 : ((0 : Int) != 0) = false := rfl
        have HAO := Lib.hid (fun w => asked_ov k ps1 ts1 fd at_ n til sn da m1 dc a hka w)
        have hBo := ((HBA.out.1 _ hE3).take hm1).asked a.data
        have hoa : Ov.asked ⟨k, ps1, ts1, fd, at_, n, til, sn, ds.take m1⟩ a = ⟨k, if a.path then ps1 else [], if a.to then ts1 else [], if a.fd then fd else 0, if a.part then at_ else 0, if a.part then n else 0, if a.til then til else 0, if a.snap then sn else 0, if a.data then ds.take m1 else []⟩ := rfl
        rw [hoa] at HDC
        unfold opCells at HDC
        simp only at HDC
        by_cases hr2 : r2 = 0
        · obtain ⟨b, hkb, hrb, hEb⟩ := HI2.out hr2
          subst hr2
          rw [show ((0 : Nat) : Int) = 0 from rfl]
          have HAP := Lib.hid (fun w => asked_ov k2 ps3 ts3 fd2 at2 n2 til2 sn2 db m2 dc2 b hkb w)
          have hBp := ((HBA.out.2.1 _ hE3).take hm2).asked b.data
          have hiff := opBytes_iff ⟨k, ps1, ts1, fd, at_, n, til, sn, ds.take m1⟩ ⟨k2, ps3, ts3, fd2, at2, n2, til2, sn2, ds2.take m2⟩ a b hka hkb hra hrb htil htil2
          have ea : Ov.bytes ⟨k, ps1, ts1, fd, at_, n, til, sn, ds.take m1⟩ a = L1 := (congrArg Prod.fst hEa).symm
          have eb : Ov.bytes ⟨k2, ps3, ts3, fd2, at2, n2, til2, sn2, ds2.take m2⟩ b = L2 := (congrArg Prod.fst hEb).symm
          have hpb : Ov.asked ⟨k2, ps3, ts3, fd2, at2, n2, til2, sn2, ds2.take m2⟩ b = ⟨k2, if b.path then ps3 else [], if b.to then ts3 else [], if b.fd then fd2 else 0, if b.part then at2 else 0, if b.part then n2 else 0, if b.til then til2 else 0, if b.snap then sn2 else 0, if b.data then ds2.take m2 else []⟩ := rfl
          rw [ea, eb, hoa, hpb] at hiff
          clear hoa hpb ea eb hEa hEb HI1 HI2 hd1 HEE1
          generalize (if a.path = true then ps1 else []) = p5 at *
          generalize (if a.to = true then ts1 else []) = t5 at *
          generalize (if a.fd = true then fd else 0) = f5 at *
          generalize (if a.part = true then at_ else 0) = q5 at *
          generalize (if a.part = true then n else 0) = n5 at *
          generalize (if a.til = true then til else 0) = u5 at *
          generalize (if a.snap = true then sn else 0) = s5 at *
          generalize (if a.data = true then ds.take m1 else []) = e5 at *
          generalize (if a.data = true then da else none) = g5 at *
          generalize (if a.data = true then m1 else 0) = l5 at *
          generalize (if a.data = true then dc else 0) = y5 at *
          generalize (if b.path = true then ps3 else []) = p6 at *
          generalize (if b.to = true then ts3 else []) = t6 at *
          generalize (if b.fd = true then fd2 else 0) = f6 at *
          generalize (if b.part = true then at2 else 0) = q6 at *
          generalize (if b.part = true then n2 else 0) = n6 at *
          generalize (if b.til = true then til2 else 0) = u6 at *
          generalize (if b.snap = true then sn2 else 0) = s6 at *
          generalize (if b.data = true then ds2.take m2 else []) = e6 at *
          generalize (if b.data = true then db else none) = g6 at *
          generalize (if b.data = true then m2 else 0) = l6 at *
          generalize (if b.data = true then dc2 else 0) = y6 at *
          have HK1 := Lib.hid (fun (a4 : Option Addr) (dl4 m4 : Nat) (w : World) (h1 : Bs w a4 dl4 m4 e5) (h2 : Bs w g5 l5 y5 e5) => keepop_any k k p5 p5 t5 t5 f5 f5 q5 q5 n5 n5 s5 s5 u5 u5 a4 g5 dl4 l5 m4 y5 e5 e5 w h1 h2)
          have HK2 := Lib.hid (fun (w : World) (h1 : Bs w g5 l5 y5 e5) (h2 : Bs w g6 l6 y6 e6) => keepop_any k k2 p5 p6 t5 t6 f5 f6 q5 q6 n5 n6 s5 s6 u5 u6 g5 g6 l5 l6 y5 y6 e5 e6 w h1 h2)
          have hbb : decide (k = k2 ∧ p5 = p6 ∧ t5 = t6 ∧ f5 = f6 ∧ q5 = q6 ∧ n5 = n6 ∧ u5 = u6 ∧ s5 = s6 ∧ e5 = e6) = ((strOf L1).toList == (strOf L2).toList) := by
            rw [strOf_toList, strOf_toList, Bool.eq_iff_iff, decide_eq_true_iff, beq_iff_eq, hiff]
            simp
          rw [hbb] at HK2
          obtain ⟨bb, hb⟩ : ∃ bb, ((strOf L1).toList == (strOf L2).toList) = bb := ⟨_, rfl⟩
          rw [hb] at HK2
          have zb : (bb != bb) = false := by cases bb <;> rfl
          rw [show decide (k = k ∧ p5 = p5 ∧ t5 = t5 ∧ f5 = f5 ∧ q5 = q5 ∧ n5 = n5 ∧ u5 = u5 ∧ s5 = s5 ∧ e5 = e5) = true from decide_eq_true ⟨rfl, rfl, rfl, rfl, rfl, rfl, rfl, rfl, rfl⟩] at HK1
          obtain ⟨d5l, hel⟩ : ∃ q, e5.length = q := ⟨_, rfl⟩
          unfold ovCells at HAO HAP HK1 HK2
          clear hbb hiff hka hkb hra hrb
          have HHE := Lib.hid hel
          clear hel
          go_wp2_with fail
          refine HDC.out.mono ?_
          rintro e' w4 ⟨⟨v4, rfl, ho4⟩, hb4⟩
          obtain ⟨a4, m4, rfl, hBX⟩ := ho4.bsn (n := d5l) HHE.out
          have hE := hE3.step hb4
          have hO := (hb4.block _ (lt_of_heap hO)).trans hO
          have hP := (hb4.block _ (lt_of_heap hP)).trans hP
          have hR := (hb4.block _ (lt_of_heap hR)).trans hR
          have hBo := hBo.below hb4
          have hBp := hBp.below hb4
          have hS1 := hS1.below hb4
          have hS2 := hS2.below hb4
          have hX := heap_alloc_new w4 (.cells (ovCells k (strOf p5) (strOf t5) f5 q5 n5 u5 s5 a4 d5l m4) 25)
          have hO := (Below.heap_alloc w4 (.cells (ovCells k (strOf p5) (strOf t5) f5 q5 n5 u5 s5 a4 d5l m4) 25) _ (lt_of_heap hO)).trans hO
          have hP := (Below.heap_alloc w4 (.cells (ovCells k (strOf p5) (strOf t5) f5 q5 n5 u5 s5 a4 d5l m4) 25) _ (lt_of_heap hP)).trans hP
          have hR := (Below.heap_alloc w4 (.cells (ovCells k (strOf p5) (strOf t5) f5 q5 n5 u5 s5 a4 d5l m4) 25) _ (lt_of_heap hR)).trans hR
          have hE := hE.alloc (.cells (ovCells k (strOf p5) (strOf t5) f5 q5 n5 u5 s5 a4 d5l m4) 25)
          have hBX := hBX.alloc (.cells (ovCells k (strOf p5) (strOf t5) f5 q5 n5 u5 s5 a4 d5l m4) 25)
          have hBo := hBo.alloc (.cells (ovCells k (strOf p5) (strOf t5) f5 q5 n5 u5 s5 a4 d5l m4) 25)
          have hBp := hBp.alloc (.cells (ovCells k (strOf p5) (strOf t5) f5 q5 n5 u5 s5 a4 d5l m4) 25)
          have hS1 := hS1.alloc (.cells (ovCells k (strOf p5) (strOf t5) f5 q5 n5 u5 s5 a4 d5l m4) 25)
          have hS2 := hS2.alloc (.cells (ovCells k (strOf p5) (strOf t5) f5 q5 n5 u5 s5 a4 d5l m4) 25)
          unfold ovCells at hX hO hP hR hE hBX hBo hS1 hS2 hBp
          clear hE3 ho4 hb4 HDC
          go_upto_region 6 with fail
          generalize w4.alloc _ = w6 at *
          generalize w4.heap.size = X at *
          have hX : w6.drew.heap[X]? = _ := hX
          have hO : w6.drew.heap[H]? = _ := hO
          have hP : w6.drew.heap[H + 1]? = _ := hP
          have hR : w6.drew.heap[H + 1 + 1]? = _ := hR
          have hE := hE.drew
          have hBX := hBX.drew
          have hBo := hBo.drew
          have hBp := hBp.drew
          have hS1 := hS1.drew
          have hS2 := hS2.drew
          obtain ⟨wd, hwd⟩ : ∃ wd, wd = w6.drew := ⟨_, rfl⟩
          have hb : Below w6.heap.size w6 wd := by rw [hwd]; exact (Below.refl _ _).drew
          clear hb
          refine held_start (by kernel_rfl) (fun hHeld => ?_)
          rw [← hwd] at hHeld ⊢
          rw [← hwd] at hX hO hP hR hE hBX hBo hS1 hS2 hBp
          clear hwd
          have hcx := cells_at hX
          have hco := cells_at hO
          have hcp := cells_at hP
          have x0 := hcx 0; have x1 := hcx 1; have x2 := hcx 2; have x3 := hcx 3; have x4 := hcx 4; have x5 := hcx 5; have x6 := hcx 6; have x7 := hcx 7; have x8 := hcx 8
          have c0 := hco 0; have c1 := hco 1; have c2 := hco 2; have c3 := hco 3; have c4 := hco 4; have c5 := hco 5; have c6 := hco 6; have c7 := hco 7; have c8 := hco 8
          have d0 := hcp 0; have d1 := hcp 1; have d2 := hcp 2; have d3 := hcp 3; have d4 := hcp 4; have d5 := hcp 5; have d6 := hcp 6; have d7 := hcp 7; have d8 := hcp 8
          simp only [List.getElem?_toArray, List.getElem?_cons_zero, List.getElem?_cons_succ] at x0 x1 x2 x3 x4 x5 x6 x7 x8 c0 c1 c2 c3 c4 c5 c6 c7 c8 d0 d1 d2 d3 d4 d5 d6 d7 d8
          have qX := lt_of_heap hX
          have qO := lt_of_heap hO
          have qP := lt_of_heap hP
          clear hcx hco hcp
          refine held_take (i := 0) (v := ?_) 44 rfl (by kernel_rfl) (by kernel_rfl) (by kernel_rfl) (fun _ _ _ h => h) rfl (by assumption) (Or.inl ⟨by rfl, ?_⟩) ?_
          rotate_left
          · intro w hSw; go_simp; (try with_reducible rfl)
          simp only [List.set_cons_zero, List.set_cons_succ]
          refine held_take (i := 1) (v := ?_) 45 rfl (by kernel_rfl) (by kernel_rfl) (by kernel_rfl) (fun _ _ _ h => h) rfl (by assumption) (Or.inl ⟨by rfl, ?_⟩) ?_
          rotate_left
          · intro w hSw; go_simp; (try with_reducible rfl)
          simp only [List.set_cons_zero, List.set_cons_succ]
          refine held_take (i := 2) (v := ?_) 46 rfl (by kernel_rfl) (by kernel_rfl) (by kernel_rfl) (fun _ _ _ h => h) rfl (by assumption) (Or.inl ⟨by rfl, ?_⟩) ?_
          rotate_left
          · intro w hSw; go_simp; (try with_reducible rfl)
          simp only [List.set_cons_zero, List.set_cons_succ]
          refine held_take (i := 3) (v := ?_) 47 rfl (by kernel_rfl) (by kernel_rfl) (by kernel_rfl) (fun _ _ _ h => h) rfl (by assumption) (Or.inl ⟨by rfl, ?_⟩) ?_
          rotate_left
          · intro w hSw; obtain ⟨hc, hf⟩ := bcell hSw; go_simp; (try with_reducible rfl)
          simp only [List.set_cons_zero, List.set_cons_succ]
          refine held_take (i := 4) (v := ?_) 48 rfl (by kernel_rfl) (by kernel_rfl) (by kernel_rfl) (fun _ _ _ h => h) rfl (by assumption) (Or.inl ⟨by rfl, ?_⟩) ?_
          rotate_left
          · intro w hSw; obtain ⟨hc, hf⟩ := bcell hSw; go_simp; (try with_reducible rfl)
          simp only [List.set_cons_zero, List.set_cons_succ]
          refine wpAnyH_ready (rs := [5]) (by kernel_rfl) (by simp) ?_
          refine (AllReadyH.cons rfl (fun K hK => ?_) AllReadyH.nil)
          go_simp
          refine (HAO.out _).mono ?_
          rintro e w1x ⟨rfl, hb⟩
          have hbt := HB.trans hHeld hb
          go_wp2_with fail
          refine hK.out _ _ hbt (fun _ => ?_)
          clear hK hHeld K
          have hHeld := hbt
          clear hb hbt
          refine wpAnyH_ready (rs := [6]) (by kernel_rfl) (by simp) ?_
          refine (AllReadyH.cons rfl (fun K hK => ?_) AllReadyH.nil)
          go_simp
          refine (HK1.out _ _ _ _ (hBX.below hHeld) (hBo.below hHeld)).mono ?_
          rintro e w2x ⟨rfl, hb⟩
          have hbt := HB.trans hHeld hb
          go_wp2_with fail
          refine hK.out _ _ hbt (fun _ => ?_)
          clear hK hHeld K
          have hHeld := hbt
          clear hb hbt
          refine held_take (i := 7) (v := ?_) 51 rfl (by kernel_rfl) (by kernel_rfl) (by kernel_rfl) (fun _ _ _ h => h) rfl (by assumption) (Or.inl ⟨by rfl, ?_⟩) ?_
          rotate_left
          · intro w hSw; go_simp; (try with_reducible rfl)
          simp only [List.set_cons_zero, List.set_cons_succ]
          refine held_take (i := 8) (v := ?_) 52 rfl (by kernel_rfl) (by kernel_rfl) (by kernel_rfl) (fun _ _ _ h => h) rfl (by assumption) (Or.inl ⟨by rfl, ?_⟩) ?_
          rotate_left
          · intro w hSw; go_simp; (try with_reducible rfl)
          simp only [List.set_cons_zero, List.set_cons_succ]
          refine held_take (i := 9) (v := ?_) 53 rfl (by kernel_rfl) (by kernel_rfl) (by kernel_rfl) (fun _ _ _ h => h) rfl (by assumption) (Or.inl ⟨by rfl, ?_⟩) ?_
          rotate_left
          · intro w hSw; go_simp; (try with_reducible rfl)
          simp only [List.set_cons_zero, List.set_cons_succ]
          refine held_take (i := 10) (v := ?_) 54 rfl (by kernel_rfl) (by kernel_rfl) (by kernel_rfl) (fun _ _ _ h => h) rfl (by assumption) (Or.inl ⟨by rfl, ?_⟩) ?_
          rotate_left
          · intro w hSw; go_simp; (try with_reducible rfl)
          simp only [List.set_cons_zero, List.set_cons_succ]
          refine held_take (i := 11) (v := ?_) 55 rfl (by kernel_rfl) (by kernel_rfl) (by kernel_rfl) (fun _ _ _ h => h) rfl (by assumption) (Or.inl ⟨by rfl, ?_⟩) ?_
          rotate_left
          · intro w hSw; go_simp; (try with_reducible rfl)
          simp only [List.set_cons_zero, List.set_cons_succ]
          refine held_take (i := 12) (v := ?_) 56 rfl (by kernel_rfl) (by kernel_rfl) (by kernel_rfl) (fun _ _ _ h => h) rfl (by assumption) (Or.inl ⟨by rfl, ?_⟩) ?_
          rotate_left
          · intro w hSw; go_simp; (try with_reducible rfl)
          simp only [List.set_cons_zero, List.set_cons_succ]
          refine held_take (i := 13) (v := ?_) 57 rfl (by kernel_rfl) (by kernel_rfl) (by kernel_rfl) (fun _ _ _ h => h) rfl (by assumption) (Or.inl ⟨by rfl, ?_⟩) ?_
          rotate_left
          · intro w hSw; go_simp; (try with_reducible rfl)
          simp only [List.set_cons_zero, List.set_cons_succ]
          refine held_take (i := 14) (v := ?_) 58 rfl (by kernel_rfl) (by kernel_rfl) (by kernel_rfl) (fun _ _ _ h => h) rfl (by assumption) (Or.inl ⟨by rfl, ?_⟩) ?_
          rotate_left
          · intro w hSw; have hs := run_string (hS1.below hSw); go_simp; (try with_reducible rfl)
          simp only [List.set_cons_zero, List.set_cons_succ]
          refine held_take (i := 15) (v := ?_) 59 rfl (by kernel_rfl) (by kernel_rfl) (by kernel_rfl) (fun _ _ _ h => h) rfl (by assumption) (Or.inl ⟨by rfl, ?_⟩) ?_
          rotate_left
          · intro w hSw; go_simp; (try with_reducible rfl)
          simp only [List.set_cons_zero, List.set_cons_succ]
          refine held_take (i := 16) (v := ?_) 60 rfl (by kernel_rfl) (by kernel_rfl) (by kernel_rfl) (fun _ _ _ h => h) rfl (by assumption) (Or.inl ⟨by rfl, ?_⟩) ?_
          rotate_left
          · intro w hSw; have hs := run_string (hS2.below hSw); go_simp; (try with_reducible rfl)
          simp only [List.set_cons_zero, List.set_cons_succ]
          refine held_take (i := 17) (v := ?_) 61 rfl (by kernel_rfl) (by kernel_rfl) (by kernel_rfl) (fun _ _ _ h => h) rfl (by assumption) (Or.inl ⟨by rfl, ?_⟩) ?_
          rotate_left
          · intro w hSw; go_simp; (try with_reducible rfl)
          simp only [List.set_cons_zero, List.set_cons_succ]
          refine held_take (i := 18) (v := ?_) 62 rfl (by kernel_rfl) (by kernel_rfl) (by kernel_rfl) (fun _ _ _ h => h) rfl (by assumption) (Or.inl ⟨by rfl, ?_⟩) ?_
          rotate_left
          · intro w hSw; obtain ⟨hc, hf⟩ := bcell hSw; go_simp; (try with_reducible rfl)
          simp only [List.set_cons_zero, List.set_cons_succ]
          refine held_take (i := 20) (v := ?_) 64 rfl (by kernel_rfl) (by kernel_rfl) (by kernel_rfl) (fun _ _ _ h => h) rfl (by assumption) (Or.inl ⟨by rfl, ?_⟩) ?_
          rotate_left
          · intro w hSw; obtain ⟨hc, hf⟩ := bcell hSw; go_simp; (try with_reducible rfl)
          simp only [List.set_cons_zero, List.set_cons_succ]
          refine wpAnyH_ready (rs := [19]) (by kernel_rfl) (by simp) ?_
          refine (AllReadyH.cons rfl (fun K hK => ?_) AllReadyH.nil)
          go_simp
          refine (HAO.out _).mono ?_
          rintro e w3x ⟨rfl, hb⟩
          have hbt := HB.trans hHeld hb
          go_wp2_with fail
          refine hK.out _ _ hbt (fun _ => ?_)
          clear hK hHeld K
          have hHeld := hbt
          clear hb hbt
          refine wpAnyH_ready (rs := [21]) (by kernel_rfl) (by simp) ?_
          refine (AllReadyH.cons rfl (fun K hK => ?_) AllReadyH.nil)
          go_simp
          refine (HAP.out _).mono ?_
          rintro e w4x ⟨rfl, hb⟩
          have hbt := HB.trans hHeld hb
          go_wp2_with fail
          refine hK.out _ _ hbt (fun _ => ?_)
          clear hK hHeld K
          have hHeld := hbt
          clear hb hbt
          refine wpAnyH_ready (rs := [22]) (by kernel_rfl) (by simp) ?_
          refine (AllReadyH.cons rfl (fun K hK => ?_) AllReadyH.nil)
          go_simp
          refine (HK2.out _ (hBo.below hHeld) (hBp.below hHeld)).mono ?_
          rintro e w5x ⟨rfl, hb⟩
          have hbt := HB.trans hHeld hb
          go_wp2_with fail
          refine hK.out _ _ hbt (fun _ => ?_)
          clear hK hHeld K
          have hHeld := hbt
          clear hb hbt
          refine held_take (i := 23) (v := ?_) 67 rfl (by kernel_rfl) (by kernel_rfl) (by kernel_rfl) (fun _ _ _ h => h) rfl (by assumption) (Or.inl ⟨by rfl, ?_⟩) ?_
          rotate_left
          · intro w hSw; go_simp; (try with_reducible rfl)
          simp only [List.set_cons_zero, List.set_cons_succ]
          refine held_take (i := 24) (v := ?_) 68 rfl (by kernel_rfl) (by kernel_rfl) (by kernel_rfl) (fun _ _ _ h => h) rfl (by assumption) (Or.inl ⟨by rfl, ?_⟩) ?_
          rotate_left
          · intro w hSw; go_simp; (try with_reducible rfl)
          simp only [List.set_cons_zero, List.set_cons_succ]
          refine held_take (i := 25) (v := ?_) 69 rfl (by kernel_rfl) (by kernel_rfl) (by kernel_rfl) (fun _ _ _ h => h) rfl (by assumption) (Or.inl ⟨by rfl, ?_⟩) ?_
          rotate_left
          · intro w hSw; go_simp; (try with_reducible rfl)
          simp only [List.set_cons_zero, List.set_cons_succ]
          refine wpAnyH_done (by kernel_rfl) ?_ _
          go_wp2_with fail
          go_meet
          exact ⟨(Below.block hHeld _ (lt_of_heap hR)).trans hR, hE.step hHeld⟩
        · have hz2 : ((r2 : Int) == 0) = false := by simp; omega
          clear hoa hEa HI1 HI2 hd1 HEE1 hr2
          generalize (if a.path = true then ps1 else []) = p5 at *
          generalize (if a.to = true then ts1 else []) = t5 at *
          generalize (if a.fd = true then fd else 0) = f5 at *
          generalize (if a.part = true then at_ else 0) = q5 at *
          generalize (if a.part = true then n else 0) = n5 at *
          generalize (if a.til = true then til else 0) = u5 at *
          generalize (if a.snap = true then sn else 0) = s5 at *
          generalize (if a.data = true then ds.take m1 else []) = e5 at *
          generalize (if a.data = true then da else none) = g5 at *
          generalize (if a.data = true then m1 else 0) = l5 at *
          generalize (if a.data = true then dc else 0) = y5 at *
          have HK1 := Lib.hid (fun (a4 : Option Addr) (dl4 m4 : Nat) (w : World) (h1 : Bs w a4 dl4 m4 e5) (h2 : Bs w g5 l5 y5 e5) => keepop_any k k p5 p5 t5 t5 f5 f5 q5 q5 n5 n5 s5 s5 u5 u5 a4 g5 dl4 l5 m4 y5 e5 e5 w h1 h2)
          rw [show decide (k = k ∧ p5 = p5 ∧ t5 = t5 ∧ f5 = f5 ∧ q5 = q5 ∧ n5 = n5 ∧ u5 = u5 ∧ s5 = s5 ∧ e5 = e5) = true from decide_eq_true ⟨rfl, rfl, rfl, rfl, rfl, rfl, rfl, rfl, rfl⟩] at HK1
          obtain ⟨d5l, hel⟩ : ∃ q, e5.length = q := ⟨_, rfl⟩
          unfold ovCells at HAO HK1
          clear hka hra
          have HHE := Lib.hid hel
          clear hel
          go_wp2_with fail
          refine HDC.out.mono ?_
          rintro e' w4 ⟨⟨v4, rfl, ho4⟩, hb4⟩
          obtain ⟨a4, m4, rfl, hBX⟩ := ho4.bsn (n := d5l) HHE.out
          have hE := hE3.step hb4
          have hO := (hb4.block _ (lt_of_heap hO)).trans hO
          have hP := (hb4.block _ (lt_of_heap hP)).trans hP
          have hR := (hb4.block _ (lt_of_heap hR)).trans hR
          have hBo := hBo.below hb4
          have hS1 := hS1.below hb4
          have hS2 := hS2.below hb4
          have hX := heap_alloc_new w4 (.cells (ovCells k (strOf p5) (strOf t5) f5 q5 n5 u5 s5 a4 d5l m4) 25)
          have hO := (Below.heap_alloc w4 (.cells (ovCells k (strOf p5) (strOf t5) f5 q5 n5 u5 s5 a4 d5l m4) 25) _ (lt_of_heap hO)).trans hO
          have hP := (Below.heap_alloc w4 (.cells (ovCells k (strOf p5) (strOf t5) f5 q5 n5 u5 s5 a4 d5l m4) 25) _ (lt_of_heap hP)).trans hP
          have hR := (Below.heap_alloc w4 (.cells (ovCells k (strOf p5) (strOf t5) f5 q5 n5 u5 s5 a4 d5l m4) 25) _ (lt_of_heap hR)).trans hR
          have hE := hE.alloc (.cells (ovCells k (strOf p5) (strOf t5) f5 q5 n5 u5 s5 a4 d5l m4) 25)
          have hBX := hBX.alloc (.cells (ovCells k (strOf p5) (strOf t5) f5 q5 n5 u5 s5 a4 d5l m4) 25)
          have hBo := hBo.alloc (.cells (ovCells k (strOf p5) (strOf t5) f5 q5 n5 u5 s5 a4 d5l m4) 25)
          have hS1 := hS1.alloc (.cells (ovCells k (strOf p5) (strOf t5) f5 q5 n5 u5 s5 a4 d5l m4) 25)
          have hS2 := hS2.alloc (.cells (ovCells k (strOf p5) (strOf t5) f5 q5 n5 u5 s5 a4 d5l m4) 25)
          unfold ovCells at hX hO hP hR hE hBX hBo hS1 hS2
          clear hE3 ho4 hb4 HDC
          go_upto_region 6 with fail
          generalize w4.alloc _ = w6 at *
          generalize w4.heap.size = X at *
          have hX : w6.drew.heap[X]? = _ := hX
          have hO : w6.drew.heap[H]? = _ := hO
          have hP : w6.drew.heap[H + 1]? = _ := hP
          have hR : w6.drew.heap[H + 1 + 1]? = _ := hR
          have hE := hE.drew
          have hBX := hBX.drew
          have hBo := hBo.drew
          have hS1 := hS1.drew
          have hS2 := hS2.drew
          obtain ⟨wd, hwd⟩ : ∃ wd, wd = w6.drew := ⟨_, rfl⟩
          have hb : Below w6.heap.size w6 wd := by rw [hwd]; exact (Below.refl _ _).drew
          clear hb
          refine held_start (by kernel_rfl) (fun hHeld => ?_)
          rw [← hwd] at hHeld ⊢
          rw [← hwd] at hX hO hP hR hE hBX hBo hS1 hS2
          clear hwd
          have hcx := cells_at hX
          have hco := cells_at hO
          have hcp := cells_at hP
          have x0 := hcx 0; have x1 := hcx 1; have x2 := hcx 2; have x3 := hcx 3; have x4 := hcx 4; have x5 := hcx 5; have x6 := hcx 6; have x7 := hcx 7; have x8 := hcx 8
          have c0 := hco 0; have c1 := hco 1; have c2 := hco 2; have c3 := hco 3; have c4 := hco 4; have c5 := hco 5; have c6 := hco 6; have c7 := hco 7; have c8 := hco 8
          have d0 := hcp 0; have d1 := hcp 1; have d2 := hcp 2; have d3 := hcp 3; have d4 := hcp 4; have d5 := hcp 5; have d6 := hcp 6; have d7 := hcp 7; have d8 := hcp 8
          simp only [List.getElem?_toArray, List.getElem?_cons_zero, List.getElem?_cons_succ] at x0 x1 x2 x3 x4 x5 x6 x7 x8 c0 c1 c2 c3 c4 c5 c6 c7 c8 d0 d1 d2 d3 d4 d5 d6 d7 d8
          have qX := lt_of_heap hX
          have qO := lt_of_heap hO
          have qP := lt_of_heap hP
          clear hcx hco hcp
          refine held_take (i := 0) (v := ?_) 44 rfl (by kernel_rfl) (by kernel_rfl) (by kernel_rfl) (fun _ _ _ h => h) rfl (by assumption) (Or.inl ⟨by rfl, ?_⟩) ?_
          rotate_left
          · intro w hSw; go_simp; (try with_reducible rfl)
          simp only [List.set_cons_zero, List.set_cons_succ]
          refine held_take (i := 1) (v := ?_) 45 rfl (by kernel_rfl) (by kernel_rfl) (by kernel_rfl) (fun _ _ _ h => h) rfl (by assumption) (Or.inl ⟨by rfl, ?_⟩) ?_
          rotate_left
          · intro w hSw; go_simp; (try with_reducible rfl)
          simp only [List.set_cons_zero, List.set_cons_succ]
          refine held_take (i := 2) (v := ?_) 46 rfl (by kernel_rfl) (by kernel_rfl) (by kernel_rfl) (fun _ _ _ h => h) rfl (by assumption) (Or.inl ⟨by rfl, ?_⟩) ?_
          rotate_left
          · intro w hSw; go_simp; (try with_reducible rfl)
          simp only [List.set_cons_zero, List.set_cons_succ]
          refine held_take (i := 3) (v := ?_) 47 rfl (by kernel_rfl) (by kernel_rfl) (by kernel_rfl) (fun _ _ _ h => h) rfl (by assumption) (Or.inl ⟨by rfl, ?_⟩) ?_
          rotate_left
          · intro w hSw; obtain ⟨hc, hf⟩ := bcell hSw; go_simp; (try with_reducible rfl)
          simp only [List.set_cons_zero, List.set_cons_succ]
          refine held_take (i := 4) (v := ?_) 48 rfl (by kernel_rfl) (by kernel_rfl) (by kernel_rfl) (fun _ _ _ h => h) rfl (by assumption) (Or.inl ⟨by rfl, ?_⟩) ?_
          rotate_left
          · intro w hSw; obtain ⟨hc, hf⟩ := bcell hSw; go_simp; (try with_reducible rfl)
          simp only [List.set_cons_zero, List.set_cons_succ]
          refine wpAnyH_ready (rs := [5]) (by kernel_rfl) (by simp) ?_
          refine (AllReadyH.cons rfl (fun K hK => ?_) AllReadyH.nil)
          go_simp
          refine (HAO.out _).mono ?_
          rintro e w1x ⟨rfl, hb⟩
          have hbt := HB.trans hHeld hb
          go_wp2_with fail
          refine hK.out _ _ hbt (fun _ => ?_)
          clear hK hHeld K
          have hHeld := hbt
          clear hb hbt
          refine wpAnyH_ready (rs := [6]) (by kernel_rfl) (by simp) ?_
          refine (AllReadyH.cons rfl (fun K hK => ?_) AllReadyH.nil)
          go_simp
          refine (HK1.out _ _ _ _ (hBX.below hHeld) (hBo.below hHeld)).mono ?_
          rintro e w2x ⟨rfl, hb⟩
          have hbt := HB.trans hHeld hb
          go_wp2_with fail
          refine hK.out _ _ hbt (fun _ => ?_)
          clear hK hHeld K
          have hHeld := hbt
          clear hb hbt
          refine held_take (i := 7) (v := ?_) 51 rfl (by kernel_rfl) (by kernel_rfl) (by kernel_rfl) (fun _ _ _ h => h) rfl (by assumption) (Or.inl ⟨by rfl, ?_⟩) ?_
          rotate_left
          · intro w hSw; go_simp; (try with_reducible rfl)
          simp only [List.set_cons_zero, List.set_cons_succ]
          refine held_take (i := 8) (v := ?_) 52 rfl (by kernel_rfl) (by kernel_rfl) (by kernel_rfl) (fun _ _ _ h => h) rfl (by assumption) (Or.inl ⟨by rfl, ?_⟩) ?_
          rotate_left
          · intro w hSw; go_simp; (try with_reducible rfl)
          simp only [List.set_cons_zero, List.set_cons_succ]
          refine held_take (i := 9) (v := ?_) 53 rfl (by kernel_rfl) (by kernel_rfl) (by kernel_rfl) (fun _ _ _ h => h) rfl (by assumption) (Or.inl ⟨by rfl, ?_⟩) ?_
          rotate_left
          · intro w hSw; go_simp; (try with_reducible rfl)
          simp only [List.set_cons_zero, List.set_cons_succ]
          refine held_take (i := 10) (v := ?_) 54 rfl (by kernel_rfl) (by kernel_rfl) (by kernel_rfl) (fun _ _ _ h => h) rfl (by assumption) (Or.inl ⟨by rfl, ?_⟩) ?_
          rotate_left
          · intro w hSw; go_simp; (try with_reducible rfl)
          simp only [List.set_cons_zero, List.set_cons_succ]
          refine held_take (i := 11) (v := ?_) 55 rfl (by kernel_rfl) (by kernel_rfl) (by kernel_rfl) (fun _ _ _ h => h) rfl (by assumption) (Or.inl ⟨by rfl, ?_⟩) ?_
          rotate_left
          · intro w hSw; go_simp; (try with_reducible rfl)
          simp only [List.set_cons_zero, List.set_cons_succ]
          refine held_take (i := 12) (v := ?_) 56 rfl (by kernel_rfl) (by kernel_rfl) (by kernel_rfl) (fun _ _ _ h => h) rfl (by assumption) (Or.inl ⟨by rfl, ?_⟩) ?_
          rotate_left
          · intro w hSw; go_simp; (try with_reducible rfl)
          simp only [List.set_cons_zero, List.set_cons_succ]
          refine held_take (i := 13) (v := undef) 57 rfl (by kernel_rfl) (by kernel_rfl) (by kernel_rfl) (fun _ _ _ h => h) rfl (by assumption) (Or.inr ⟨by rfl, rfl⟩) ?_
          simp only [List.set_cons_zero, List.set_cons_succ]
          refine held_take (i := 14) (v := undef) 58 rfl (by kernel_rfl) (by kernel_rfl) (by kernel_rfl) (fun _ _ _ h => h) rfl (by assumption) (Or.inr ⟨by rfl, rfl⟩) ?_
          simp only [List.set_cons_zero, List.set_cons_succ]
          refine held_take (i := 15) (v := undef) 59 rfl (by kernel_rfl) (by kernel_rfl) (by kernel_rfl) (fun _ _ _ h => h) rfl (by assumption) (Or.inr ⟨by rfl, rfl⟩) ?_
          simp only [List.set_cons_zero, List.set_cons_succ]
          refine held_take (i := 16) (v := undef) 60 rfl (by kernel_rfl) (by kernel_rfl) (by kernel_rfl) (fun _ _ _ h => h) rfl (by assumption) (Or.inr ⟨by rfl, rfl⟩) ?_
          simp only [List.set_cons_zero, List.set_cons_succ]
          refine held_take (i := 17) (v := undef) 61 rfl (by kernel_rfl) (by kernel_rfl) (by kernel_rfl) (fun _ _ _ h => h) rfl (by assumption) (Or.inr ⟨by rfl, rfl⟩) ?_
          simp only [List.set_cons_zero, List.set_cons_succ]
          refine held_take (i := 18) (v := undef) 62 rfl (by kernel_rfl) (by kernel_rfl) (by kernel_rfl) (fun _ _ _ h => h) rfl (by assumption) (Or.inr ⟨by rfl, rfl⟩) ?_
          simp only [List.set_cons_zero, List.set_cons_succ]
          refine held_take (i := 19) (v := undef) 63 rfl (by kernel_rfl) (by kernel_rfl) (by kernel_rfl) (fun _ _ _ h => h) rfl (by assumption) (Or.inr ⟨by rfl, rfl⟩) ?_
          simp only [List.set_cons_zero, List.set_cons_succ]
          refine held_take (i := 20) (v := undef) 64 rfl (by kernel_rfl) (by kernel_rfl) (by kernel_rfl) (fun _ _ _ h => h) rfl (by assumption) (Or.inr ⟨by rfl, rfl⟩) ?_
          simp only [List.set_cons_zero, List.set_cons_succ]
          refine held_take (i := 21) (v := undef) 65 rfl (by kernel_rfl) (by kernel_rfl) (by kernel_rfl) (fun _ _ _ h => h) rfl (by assumption) (Or.inr ⟨by rfl, rfl⟩) ?_
          simp only [List.set_cons_zero, List.set_cons_succ]
          refine held_take (i := 22) (v := undef) 66 rfl (by kernel_rfl) (by kernel_rfl) (by kernel_rfl) (fun _ _ _ h => h) rfl (by assumption) (Or.inr ⟨by rfl, rfl⟩) ?_
          simp only [List.set_cons_zero, List.set_cons_succ]
          refine held_take (i := 23) (v := undef) 67 rfl (by kernel_rfl) (by kernel_rfl) (by kernel_rfl) (fun _ _ _ h => h) rfl (by assumption) (Or.inr ⟨by rfl, rfl⟩) ?_
          simp only [List.set_cons_zero, List.set_cons_succ]
          refine held_take (i := 24) (v := ?_) 68 rfl (by kernel_rfl) (by kernel_rfl) (by kernel_rfl) (fun _ _ _ h => h) rfl (by assumption) (Or.inl ⟨by rfl, ?_⟩) ?_
          rotate_left
          · intro w hSw; go_simp; (try with_reducible rfl)
          simp only [List.set_cons_zero, List.set_cons_succ]
          refine held_take (i := 25) (v := ?_) 69 rfl (by kernel_rfl) (by kernel_rfl) (by kernel_rfl) (fun _ _ _ h => h) rfl (by assumption) (Or.inl ⟨by rfl, ?_⟩) ?_
          rotate_left
          · intro w hSw; go_simp; (try with_reducible rfl)
          simp only [List.set_cons_zero, List.set_cons_succ]
          refine wpAnyH_done (by kernel_rfl) ?_ _
          go_wp2_with fail
          go_meet
          exact ⟨(Below.block hHeld _ (lt_of_heap hR)).trans hR, hE.step hHeld⟩
      · have hr1' : ((r1 : Int) == 0) = false := by simp; omega
        have HR := Lib.hid hR
        have HEX := Lib.hid hE3
        clear hr1 hO hP hR hS1 hS2 hE3
        go_wp2_with fail
        go_meet
        exact ⟨HR.out, HEX.out⟩
    case rest =>
      obtain ⟨hR, hE⟩ := hcut
      clear hO hP hS1 hS2 hE3
      have HR := Lib.hid hR
      have HE4 := Lib.hid (oprenc_any er n3 ra rl rc rs na nl nc ls nd _ (HBA.out.2.2.1 _ hE) (HBA.out.2.2.2.2 _ hE))
      have hE4i : (rpEnc ⟨er, n3, rs, ls, nd⟩).2 = 0 → Rp.Fine ⟨er, n3, rs, ls, nd⟩ ∧ rpEnc ⟨er, n3, rs, ls, nd⟩ = (Rp.bytes ⟨er, n3, rs, ls, nd⟩, 0) := fun h => by
        unfold rpEnc at *
        by_cases hf : Rp.Fine ⟨er, n3, rs, ls, nd⟩
        · exact ⟨hf, by rw [if_pos hf]⟩
        · rw [if_neg hf] at h; simp at h
      have HI3 := Lib.hid hE4i
      unfold rpCells at HE4
      generalize rpEnc ⟨er, n3, rs, ls, nd⟩ = E3 at *
      obtain ⟨L3, r3⟩ := E3
      simp only at HE4 HI3
      clear hE4i
      have Dc := cells_at hR
      (try unfold rpCells at Dc)
      have c0 := Dc 0; have c1 := Dc 1; have c2 := Dc 2; have c3 := Dc 3; have c4 := Dc 4; have c5 := Dc 5; have c6 := Dc 6; have c7 := Dc 7; have c8 := Dc 8; have c9 := Dc 9
      simp only [List.getElem?_toArray, List.getElem?_cons_zero, List.getElem?_cons_succ] at c0 c1 c2 c3 c4 c5 c6 c7 c8 c9
      clear Dc
      clear hR
      go_wp2_with fail
      refine HE4.out.mono ?_
      rintro e' w5 ⟨v5, rfl, ho5, hb5⟩
      have hE5 := hE.step hb5
      have hR := (hb5.block _ (lt_of_heap HR.out)).trans HR.out
      obtain ⟨a3, z3, rfl, hS3⟩ := ho5.bs
      clear c0 c1 c2 c3 c4 c5 c6 c7 c8 c9 HR HE4 hE ho5 hb5
      go_upto_if 76 with fail
      go_cut [] (fun wx => Ext H w wx)
      case first =>
        by_cases hr3 : r3 = 0
        · obtain ⟨hf, he3⟩ := HI3.out hr3
          have hl3 : L3 = Rp.bytes ⟨er, n3, rs, ls, nd⟩ := congrArg Prod.fst he3
          have hd3 : rpDec L3 = (⟨er, n3, rs, ls, nd⟩, 0) := by rw [hl3]; exact rpDec_ok _ hf hndt
          have hbl : L3.length ≤ big := by rw [hl3]; have := (Rp.bytes_bd2 _ hf); unfold big; omega
          have HDC := Lib.hid (oprdec_any a3 L3.length z3 L3 w5 hS3 hbl)
          unfold RpPost at HDC
          rw [hd3] at HDC
          unfold rpV at HDC
          simp only at HDC
          subst hr3
          rw [show ((0 : Nat) : Int) = 0 from rfl]
          have z0 : ((0 : Int) == 0) = true := rfl
          have z00 : ((0 : Int) != 0) = false := rfl
          clear hf he3 hl3 hd3 hbl HI3 hS3
          go_wp2_with fail
          refine HDC.out.mono ?_
          rintro e' w6 ⟨⟨dv, nv, rfl, hod, hon⟩, hb6⟩
          obtain ⟨a6, m6, rfl, hB6⟩ := hod.bsn HLR.out.1
          obtain ⟨na6, nc6, rfl, hS6⟩ := hon.ss HLR.out.2
          have hE6 := hE5.step hb6
          have hR := (hb6.block _ (lt_of_heap hR)).trans hR
          have hX := heap_alloc_new w6 (.cells (rpCells er n3 a6 rl m6 na6 nl nc6 nd) 45)
          have hR := (Below.heap_alloc w6 (.cells (rpCells er n3 a6 rl m6 na6 nl nc6 nd) 45) _ (lt_of_heap hR)).trans hR
          have hE7 := hE6.alloc (.cells (rpCells er n3 a6 rl m6 na6 nl nc6 nd) 45)
          have hB7 := hB6.alloc (.cells (rpCells er n3 a6 rl m6 na6 nl nc6 nd) 45)
          have hS7 := hS6.alloc (.cells (rpCells er n3 a6 rl m6 na6 nl nc6 nd) 45)
          have HKR := Lib.hid (keeprp_same er n3 a6 ra rl m6 rc rs na6 na nl nc6 nc ls nd _ hB7 (HBA.out.2.2.1 _ hE7) hS7 (HBA.out.2.2.2.2 _ hE7))
          unfold rpCells at hX hR hE7 HKR
          clear HDC hE6 hod hon hb6 hB6 hS6 hB7 hS7 hE5
          go_upto_region 11 with fail
          generalize w6.alloc _ = w7 at *
          generalize w6.heap.size = X at *
          have Dd := cells_at hX
          (try unfold rpCells at Dd)
          have d0 := Dd 0; have d1 := Dd 1; have d2 := Dd 2; have d3 := Dd 3; have d4 := Dd 4; have d5 := Dd 5; have d6 := Dd 6; have d7 := Dd 7; have d8 := Dd 8; have d9 := Dd 9
          simp only [List.getElem?_toArray, List.getElem?_cons_zero, List.getElem?_cons_succ] at d0 d1 d2 d3 d4 d5 d6 d7 d8 d9
          clear Dd
          have Dc := cells_at hR
          (try unfold rpCells at Dc)
          have c0 := Dc 0; have c1 := Dc 1; have c2 := Dc 2; have c3 := Dc 3; have c4 := Dc 4; have c5 := Dc 5; have c6 := Dc 6; have c7 := Dc 7; have c8 := Dc 8; have c9 := Dc 9
          simp only [List.getElem?_toArray, List.getElem?_cons_zero, List.getElem?_cons_succ] at c0 c1 c2 c3 c4 c5 c6 c7 c8 c9
          clear Dc
          clear hX hR
          go_wp2_with fail
          refine HKR.out.mono ?_
          rintro e' w8 ⟨rfl, hb8⟩
          have HE8 := Lib.hid (hE7.step hb8)
          clear hE7 HKR hb8 c0 c1 c2 c3 c4 c5 c6 c7 c8 c9 d0 d1 d2 d3 d4 d5 d6 d7 d8 d9
          go_wp2_with fail
          go_meet
          exact HE8.out
        · have hr1' : ((r3 : Int) == 0) = false := by simp; omega
          have HEX := Lib.hid hE5
          clear hr3 hR hS3 hE5
          go_wp2_with fail
          go_meet
          exact HEX.out
      case rest =>
        have hE := hcut
        clear hcut hR hS3 hE5 HI3
        go_wp2_with fail
        refine (cut_any 200 ax lx cx _ hlcx (by decide)).mono ?_
        rintro e' w6 ⟨rfl, rfl⟩
        have hm3 : min lx 200 ≤ lx := Nat.min_le_left _ _
        have hm200 : min lx 200 ≤ 200 := Nat.min_le_right _ _
        generalize min lx 200 = m3 at *
        have hBx := (HBA.out.2.2.2.1 _ hE).take hm3
        have hxl : (xs.take m3).length = m3 := hBx.1
        generalize xs.take m3 = ys at *
        have HDC := Lib.hid (opdec_any ax m3 cx ys _ hBx (by unfold big; omega))
        unfold DecPost at HDC
        have hinv := Lib.hid (opDec_inv ys)
        have hno := Lib.hid (opDec_no ys)
        generalize opDec ys = D at *
        obtain ⟨⟨k5, p5, t5, f5, q5, n5, u5, s5, e5⟩, r5⟩ := D
        unfold opCells at HDC
        simp only at HDC hinv hno
        go_wp2_with fail
        refine HDC.out.mono ?_
        rintro e' w7 ⟨⟨v7, rfl, ho7⟩, hb7⟩
        obtain ⟨a7, m7, rfl, hB7⟩ := ho7.bs
        have hE7 := hE.step hb7
        have hBx := hBx.below hb7
        have hX := heap_alloc_new w7 (.cells (ovCells k5 (strOf p5) (strOf t5) f5 q5 n5 u5 s5 a7 e5.length m7) 25)
        have hE8 := hE7.alloc (.cells (ovCells k5 (strOf p5) (strOf t5) f5 q5 n5 u5 s5 a7 e5.length m7) 25)
        have hB8 := hB7.alloc (.cells (ovCells k5 (strOf p5) (strOf t5) f5 q5 n5 u5 s5 a7 e5.length m7) 25)
        have hBx := hBx.alloc (.cells (ovCells k5 (strOf p5) (strOf t5) f5 q5 n5 u5 s5 a7 e5.length m7) 25)
        unfold ovCells at hX hE8 hB8 hBx
        clear HDC hE hE7 ho7 hb7 hB7
        go_upto_region 15 with fail
        generalize w7.alloc _ = w8 at *
        generalize w7.heap.size = X at *
        have Dc := cells_at hX
        (try unfold ovCells at Dc)
        have c0 := Dc 0; have c1 := Dc 1; have c2 := Dc 2; have c3 := Dc 3; have c4 := Dc 4; have c5 := Dc 5; have c6 := Dc 6; have c7 := Dc 7; have c8 := Dc 8
        simp only [List.getElem?_toArray, List.getElem?_cons_zero, List.getElem?_cons_succ] at c0 c1 c2 c3 c4 c5 c6 c7 c8
        clear Dc
        clear hX
        by_cases hr5 : r5 = 0
        · obtain ⟨a, hka, hra, hys, hasd, htl⟩ := hinv.out hr5
          have HEN := Lib.hid (openc_any k5 p5 t5 f5 q5 n5 u5 s5 a7 e5.length m7 e5 w8 hB8)
          have hen : opEnc ⟨k5, p5, t5, f5, q5, n5, u5, s5, e5⟩ = (ys, 0) := by
            unfold opEnc
            rw [hka]
            simp only
            rw [if_pos hra, ← hys]
          rw [hen] at HEN
          unfold ovCells at HEN
          simp only at HEN
          rw [hr5, show ((0 : Nat) : Int) = 0 from rfl]
          rw [show (((0 : Nat) : Int)) = 0 from rfl] at HEN
          have z0 : ((0 : Int) == 0) = true := rfl
          clear hka hra hys hasd htl hen hr5 hinv hno hB8
          generalize hE5l : e5.length = l5 at *
          clear hE5l
          go_wp2_with fail
          refine HEN.out.mono ?_
          rintro e' w9 ⟨v9, rfl, ho9, hb9⟩
          have hE9 := hE8.step hb9
          have hBx := hBx.below hb9
          obtain ⟨a9, m9, rfl, hB9⟩ := ho9.bsn hxl
          have s1 := run_string hB9
          have s2 := run_string hBx
          have zz : ((strOf ys).toList == (strOf ys).toList) = true := beq_self_eq_true _
          clear hxl c0 c1 c2 c3 c4 c5 c6 c7 c8 HEN hE8 ho9 hb9 hB9 hBx
          go_wp2_with fail
          refine (law15_known _).mono ?_
          rintro e' w10 ⟨rfl, hb10⟩
          go_wp2_with fail
          go_ret
          rw [← HH.out]
          exact ⟨rfl, (hE9.step hb10).1⟩
        · have hz := hno.out hr5
          unfold zeroOv at hz
          injection hz with i1 i2 i3 i4 i5 i6 i7 i8 i9
          subst i1 i2 i3 i4 i5 i6 i7 i8 i9
          have HK := Lib.hid (fun w h h' => keepop_any 0 0 [] [] [] [] 0 0 0 0 0 0 0 0 0 0 a7 none 0 0 m7 0 [] [] w h h')
          rw [decide_eq_true (by simp)] at HK
          have hz2 : ((r5 : Int) == 0) = false := by simp; omega
          simp only [List.length_nil] at hB8 c8 ⊢
          unfold ovCells at HK
          have HK8 := Lib.hid (HK.out w8 hB8 (Bs.nil _))
          rw [show strOf [] = (⟨#[]⟩ : ByteArray) from rfl] at HK8 c1 c2
          clear HK hB8 hBx hr5 hinv hno hxl
          go_wp2_with fail
          refine HK8.out.mono ?_
          rintro e' w9 ⟨rfl, hb9⟩
          have hE9 := hE8.step hb9
          clear c0 c1 c2 c3 c4 c5 c6 c7 c8 HK8 hE8 hb9
          go_wp2_with fail
          refine (law15_known _).mono ?_
          rintro e' w10 ⟨rfl, hb10⟩
          go_wp2_with fail
          go_ret
          rw [← HH.out]
          exact ⟨rfl, (hE9.step hb10).1⟩
end Go.Proofs.Ytphjdlckoddgmaa
