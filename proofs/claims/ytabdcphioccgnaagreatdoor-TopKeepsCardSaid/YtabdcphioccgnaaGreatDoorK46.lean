/- StWrite; StDoW; KeepLaw; KeepOps; KeepVault. -/
import Derived.Test.YtabdcphioccgnaaGreatDoorK45
set_option maxRecDepth 100000
set_option maxHeartbeats 8000000
namespace Go.Proofs.YtabdcphioccgnaaGreatDoor
section
open Go.RowKit Go.ChangeMaps Go.MapKept
variable {w w' : World} {L B C s t sn c : Nat} {fp : Nat -> Option Nat} {σ : StM}
def writeS (σ : StM) (n : Int) (ds : List UInt8) : StM × Nat × Int :=
 if writesS σ n = true then (match σ.fds n.toNat with
  | none => (σ,26,0)
  | some o => if 600 < ds.length then (σ,3,0) else if (appT σ.T o.id ds).1 ≠ 0 then (σ,(appT σ.T o.id ds).1,0) else (⟨(appT σ.T o.id ds).2,σ.S,σ.now,σ.fds⟩,0,(ds.length : Int)))
 else (σ,26,0)
theorem appT_no (T : Tr) (i : Nat) (b : List UInt8) (h : (appT T i b).1 ≠ 0) : (appT T i b).2 = T:=by
 unfold appT at h ⊢
 by_cases h1 : fileT T i ≠ 0
 ·rw [if_pos h1]
 rw [if_neg h1] at h ⊢
 cases hx : getK i T with
 | none => rfl
 | some x =>
  simp only [hx] at h ⊢
  by_cases h3 : x.n.closed = true
  ·rw [if_pos h3]
  rw [if_neg h3] at h ⊢
  split
  ·rfl
  ·rename_i h4
   rw [if_neg h4] at h
   exact absurd rfl h
theorem write_any (h : StIn w L B C s t sn fp σ) (ok : TrOk c σ.T) (hfd : ∀ i o,i < 8 -> σ.fds i = some o -> o.id <= 1000000) (hLB : L <= B) (hCB : C <= B) (hB : B <= w.heap.size)
  (k : Int) (ps ts : ByteArray) (fd at_ n : Int) (til : Nat) (sp : Int) (da : Option Addr) (dl dc : Nat) (ds : List UInt8) (hD : Bs w da dl dc ds) :
  Calls Tryz.prog 50 #[.pointer (some ⟨s,0,none⟩),.agg (ovCells k ps ts fd at_ n til sp da dl dc)] w fun e w' => e = .returned (.agg (noC (writeS σ fd ds).2.1 (writeS σ fd ds).2.2)) /\ (∃ fp',StIn w' L B C s t sn fp' (writeS σ fd ds).1) /\ Fr B w w':=by
 obtain ⟨w1,hw1⟩:=qnm (w.alloc (.cells (ovCells k ps ts fd at_ n til sp da dl dc) TOp))
 obtain ⟨w0,hw0⟩:=qnm (w1.alloc (.cells rpZ TReply))
 obtain ⟨N,hN⟩:=qnm w.heap.size
 obtain ⟨hs1,hs0,hb0,hz1,hz0⟩:=two_blocks hw1 hw0 hN
 have h0:=h.below (Nat.le_trans hCB hB) hb0
 have hB0 : B <= w0.heap.size:=Nat.le_trans hB hb0.size
 have hD0:=hD.below hb0
 have c0 : w0.cell? ⟨s,0,none⟩ = some (.pointer (some ⟨t,0,none⟩)):=cells_at h0.cel 0
 obtain ⟨o0,o1,o2,o3,o4,o5,o6,o7,o8⟩:=ov_cells hz1
 have HB0:=qh (aI hb0 (aI hB0 (aI hB (aI (show B <= N + 1 by omega) (show w.heap.size <= N + 1 by omega)))))
 have H0:=qh h0
 have HZ:=qh (aI hz1 hz0)
 have HW:=qh (aI hw0 (aI hw1 hN))
 have HOK:=qh (aI ok (aI hfd hD0))
 have HDL:=qh hD.1
 clear h h0 hb0 hz1 hz0 hB0 hw0 hw1 ok hfd hD hD0 hs1 hs0 hN
 go_enter Tryz.func50,Tryz.ntmps50
 go_upto_region 1 with fail
 have HWX:=qh HW.out
 unfold rpZ ovCells at HWX
 unfold ovCells
 rw [<- HWX.out.2.1,<- HWX.out.1,<- HWX.out.2.2]
 clear HWX HW
 cases hwr : writesS σ fd with
 | true =>
  obtain ⟨j,o,rfl,hj,ho,how⟩:=writesS_hit σ fd hwr
  have HFD:=qh (fd_hit H0.out j hj o ho true how)
  have hcs : writeS σ (j : Int) ds = if 600 < ds.length then (σ,3,0) else if (appT σ.T o.id ds).1 ≠ 0 then (σ,(appT σ.T o.id ds).1,0) else (⟨(appT σ.T o.id ds).2,σ.S,σ.now,σ.fds⟩,0,(ds.length : Int)):=by
   unfold writeS
   rw [if_pos hwr]
   have : ((j : Int)).toNat = j:=by omega
   rw [this,ho]
  rw [HDL.out] at hcs
  have HCS:=qh hcs
  have hid:=HOK.out.2.1 j o hj ho
  have HNO:=qh (appT_no σ.T o.id ds)
  have HSL:=qh (show ∀ mb F G,TreeIn w0.drew L B t mb F G σ.T -> _ from fun mb F G hT => tapp_any (w:=w0.drew) hT HOK.out.1 (Nat.le_trans hLB HB0.out.2.1) o.id hid da dl dc ds (HOK.out.2.2.below (Below.refl _ w0).drew))
  clear hcs hwr ho how hid
  by_cases hl : 600 < dl
  ·have hl1 : (600 : Int) < (dl : Int):=by omega
   have HR:=qh (show writeS σ (j : Int) ds = (σ,3,0) by rw [HCS.out,if_pos hl])
   have HNN:=qh (no_any 3 w0)
   clear hl
   go_wp2_with fail
   refine HFD.out.mono ?_
   rintro e w2 ⟨⟨g,rfl,hg,hO⟩,rfl⟩
   clear hg hO
   go_wp2_with fail
   refine HNN.out.mono ?_
   rintro e w3 ⟨rfl,hb3⟩
   have hz3:=(hb3.block (N + 1) (ltH HZ.out.2)).trans HZ.out.2
   have HF:=qh (aI (H0.out.below (Nat.le_trans hCB HB0.out.2.1) hb3) ((Fr.of HB0.out.1 HB0.out.2.2.1).trans (Fr.of hb3 HB0.out.2.1)))
   unfold noC
   clear hb3
   go_wp2_with (refine wpList_store_row rfl TReply (.tmp 4) (.tmp 24) rfl (N + 1) (noC 3 0) rfl rfl TReply rpZ hz3 (by kernel_rfl) (by kernel_rfl) (by kernel_rfl) ?_)
   refine bodyPost_ret (v:=.agg (noC 3 0)) (results_cell_row rfl _ _ (N + 1) TReply _ (0,0) _ rfl (setRow_heap _ _ _ _ TReply (0,0) hz3) Tryz.underlying36 rfl (by kernel_rfl)) rfl ?_
   rw [HR.out]
   exact ⟨rfl,⟨fp,HF.out.1.setReply hLB hCB HB0.out.2.2.2.1 hz3⟩,HF.out.2.setRow HB0.out.2.2.2.1 HB0.out.2.2.2.2 _⟩
  have hl1 : ¬ (600 : Int) < (dl : Int):=by omega
  have HL:=qh hl
  clear hl
  go_wp2_with fail
  refine HFD.out.mono ?_
  rintro e w2 ⟨⟨g,rfl,hg,hO⟩,rfl⟩
  obtain ⟨ov,hO1,hO2⟩:=hO
  have d1 : w0.cell? ⟨g,1,none⟩ = some (.int .i64 (o.id : Int)):=cells_at hO1 1
  obtain ⟨mb,F,G,hT⟩:=H0.out.tree
  have HSS:=qh (HSL.out mb F G (hT.below (Below.refl _ w0).drew))
  clear hO1 hO2 hT HSL hg
  go_upto_region 6 with fail
  refine wp_tailb 10 (by kernel_rfl) (by kernel_rfl) rfl ?_
  simp only [List.take_succ_cons,List.take_zero,List.drop_succ_cons,List.drop_zero,List.map_cons,List.map_nil,bare]
  repeat still_step
  refine wpStill_nil ?_
  go_wp2_with fail
  refine HSS.out.mono ?_
  rintro e w2 ⟨rfl,hT2,hC2⟩
  have hnt : ∀ C' ty fr k,w0.drew.heap[k]? = some (.cells C' ty fr) -> ty ≠ TItem -> ¬ TM w0.drew B k:=fun C' ty fr k hk hne ⟨_,h⟩ => by
   rcases h with ⟨C2,fr2,h⟩ | ⟨es,cl,h⟩
   ·rw [hk] at h; injection h with h; injection h with _ h; exact hne h
   ·rw [hk] at h; injection h with h; cases h
  have hz2 : w2.heap[N]? = some (.cells (ovCells k ps ts (j : Int) at_ n til sp da dl dc) TOp (0,0)):=(hC2.block N (ltH HZ.out.1) (hnt _ _ _ N HZ.out.1 (by decide))).trans HZ.out.1
  have hzr2 : w2.heap[N + 1]? = some (.cells rpZ TReply (0,0)):=(hC2.block (N + 1) (ltH HZ.out.2) (hnt _ _ _ (N + 1) HZ.out.2 (by decide))).trans HZ.out.2
  have hS2 : StIn w2 L B C s t sn fp ⟨(appT σ.T o.id ds).2,σ.S,σ.now,σ.fds⟩:=(H0.out.below (Nat.le_trans hCB HB0.out.2.1) (Below.refl _ w0).drew).setTree hCB HB0.out.2.1 hC2 ⟨_,_,_,hT2⟩
  have hb02 : Fr B w w2:=((Fr.of HB0.out.1 HB0.out.2.2.1).trans (Fr.of (Below.refl _ w0).drew HB0.out.2.1)).trans (Fr.tchg hC2 HB0.out.2.1)
  have HS2:=qh (aI hS2 hb02)
  have HZ2:=qh (aI hz2 hzr2)
  clear hT2 hC2 hS2 hb02 HSS d1 c0 o0 o1 o2 o3 o4 o5 o6 o7 o8 hnt
  generalize appT σ.T o.id ds = r at *
  obtain ⟨why,T2⟩:=r
  simp only at HS2 HCS HNO ⊢
  by_cases hw : why = 0
  ·subst hw
   have HR:=qh (show writeS σ (j : Int) ds = (⟨T2,σ.S,σ.now,σ.fds⟩,0,(dl : Int)) by rw [HCS.out,if_neg HL.out,if_neg (by simp)])
   obtain ⟨o0,o1,o2,o3,o4,o5,o6,o7,o8⟩:=ov_cells hz2
   clear hz2
   go_wp2_with (refine wpList_store_row rfl TReply (.tmp 4) (.tmp 43) rfl (N + 1) (noC 0 (dl : Int)) rfl rfl TReply rpZ hzr2 (by kernel_rfl) (by kernel_rfl) (by kernel_rfl) ?_)
   refine bodyPost_ret (v:=.agg (noC 0 (dl : Int))) (results_cell_row rfl _ _ (N + 1) TReply _ (0,0) _ rfl (setRow_heap _ _ _ _ TReply (0,0) hzr2) Tryz.underlying36 rfl (by kernel_rfl)) rfl ?_
   rw [HR.out]
   exact ⟨rfl,⟨_,HS2.out.1.setReply hLB hCB HB0.out.2.2.2.1 hzr2⟩,HS2.out.2.setRow HB0.out.2.2.2.1 HB0.out.2.2.2.2 _⟩
  ·have hw1 : ¬ (why : Int) = 0:=by omega
   obtain rfl : T2 = σ.T:=HNO.out hw
   have HR:=qh (show writeS σ (j : Int) ds = (σ,why,0) by rw [HCS.out,if_neg HL.out,if_pos hw])
   have HNN:=qh (no_any why w2)
   clear hw hz2
   go_wp2_with fail
   refine HNN.out.mono ?_
   rintro e w3 ⟨rfl,hb3⟩
   have hz3:=(hb3.block (N + 1) (ltH HZ2.out.2)).trans HZ2.out.2
   have HF:=qh (aI (HS2.out.1.below (by have:=HS2.out.2.size; omega) hb3) (HS2.out.2.trans (Fr.of hb3 (Nat.le_trans HB0.out.2.2.1 HS2.out.2.size))))
   unfold noC
   clear hb3
   go_wp2_with (refine wpList_store_row rfl TReply (.tmp 4) (.tmp 39) rfl (N + 1) (noC (why : Int) 0) rfl rfl TReply rpZ hz3 (by kernel_rfl) (by kernel_rfl) (by kernel_rfl) ?_)
   refine bodyPost_ret (v:=.agg (noC (why : Int) 0)) (results_cell_row rfl _ _ (N + 1) TReply _ (0,0) _ rfl (setRow_heap _ _ _ _ TReply (0,0) hz3) Tryz.underlying36 rfl (by kernel_rfl)) rfl ?_
   rw [HR.out]
   exact ⟨rfl,⟨_,HF.out.1.setReply hLB hCB HB0.out.2.2.2.1 hz3⟩,HF.out.2.setRow HB0.out.2.2.2.1 HB0.out.2.2.2.2 _⟩
 | false =>
  have HFD:=qh (fd_miss H0.out fd true (writesS_miss σ fd hwr))
  have HR:=qh (show writeS σ fd ds = (σ,26,0) by
   unfold writeS
   rw [if_neg (by rw [hwr]; simp)])
  have HNN:=qh (no_any 26 w0)
  clear hwr
  go_wp2_with fail
  refine HFD.out.mono ?_
  rintro e w1 ⟨rfl,rfl⟩
  go_wp2_with fail
  refine HNN.out.mono ?_
  rintro e w3 ⟨rfl,hb3⟩
  have hz3:=(hb3.block (N + 1) (ltH HZ.out.2)).trans HZ.out.2
  have HF:=qh (aI (H0.out.below (Nat.le_trans hCB HB0.out.2.1) hb3) ((Fr.of HB0.out.1 HB0.out.2.2.1).trans (Fr.of hb3 HB0.out.2.1)))
  unfold noC
  clear hb3
  go_wp2_with (refine wpList_store_row rfl TReply (.tmp 4) (.tmp 18) rfl (N + 1) (noC 26 0) rfl rfl TReply rpZ hz3 (by kernel_rfl) (by kernel_rfl) (by kernel_rfl) ?_)
  refine bodyPost_ret (v:=.agg (noC 26 0)) (results_cell_row rfl _ _ (N + 1) TReply _ (0,0) _ rfl (setRow_heap _ _ _ _ TReply (0,0) hz3) Tryz.underlying36 rfl (by kernel_rfl)) rfl ?_
  rw [HR.out]
  exact ⟨rfl,⟨fp,HF.out.1.setReply hLB hCB HB0.out.2.2.2.1 hz3⟩,HF.out.2.setRow HB0.out.2.2.2.1 HB0.out.2.2.2.2 _⟩
end
section
open Go.RowKit Go.ChangeMaps Go.MapKept
variable {w w' : World} {L B C s t sn c : Nat} {fp : Nat -> Option Nat} {σ : StM}
theorem do_write (h : StIn w L B C s t sn fp σ) (ok : TrOk c σ.T) (hfd : ∀ i o,i < 8 -> σ.fds i = some o -> o.id <= 1000000) (hLB : L <= B) (hCB : C <= B) (hB : B <= w.heap.size) (hg : Glob w) (p x : List UInt8) (hp : p.length <= 1000000) (hx : x.length <= 1000000) 
  (fd at_ n : Int) (til : Nat) (sp : Int) (da : Option Addr) (dl dc : Nat) (ds : List UInt8) (hD : Bs w da dl dc ds) :
  Calls Tryz.prog 16 #[.pointer (some ⟨s,0,none⟩),.agg (ovCells 5 (strOf p) (strOf x) fd at_ n til sp da dl dc)] w fun e w' => e = .returned (.agg (noC (writeS σ fd ds).2.1 (writeS σ fd ds).2.2)) /\ (∃ fp',StIn w' L B C s t sn fp' (writeS σ fd ds).1) /\ Fr B w w':=by
 obtain ⟨w1,hw1⟩:=qnm (w.alloc (.cells (ovCells 5 (strOf p) (strOf x) fd at_ n til sp da dl dc) TOp))
 obtain ⟨w0,hw0⟩:=qnm (w1.alloc (.cells rpZ TReply))
 have hb1:=qba hw1
 have hb0':=qba hw0
 have hs1 : w1.heap.size = w.heap.size + 1:=by rw [hw1]; simp
 have hs0 : w0.heap.size = w.heap.size + 2:=by rw [hw0]; simp [hs1]
 have hb0 : Below w.heap.size w w0:=hb1.trans (hb0'.mono hb1.size)
 have hz1 : w0.heap[w.heap.size]? = some (.cells (ovCells 5 (strOf p) (strOf x) fd at_ n til sp da dl dc) TOp (0,0)):=(hb0'.block _ (by omega)).trans (by rw [hw1]; exact heap_alloc_new w _)
 have hz0 : w0.heap[w1.heap.size]? = some (.cells rpZ TReply (0,0)):=by rw [hw0]; exact heap_alloc_new w1 _
 have HP:=qh (paths_any s 5 (by omega) p x hp hx fd at_ n til sp da dl dc w0 (hg.below hb0))
 have hpt : pathsT (pathsOf 5 p x) = ([],0):=rfl
 rw [hpt] at HP
 have HZ1:=qh hz1
 have HOV:=qh (show ∀ (W : World) (M : Nat),W.heap[M]? = some (.cells (ovCells 5 (strOf p) (strOf x) fd at_ n til sp da dl dc) TOp (0,0)) -> W.cell? ⟨M,0,none⟩ = some (.int .i64 5) /\ W.cell? ⟨M,1,none⟩ = some (.string (strOf p)) /\ W.cell? ⟨M,2,none⟩ = some (.string (strOf x)) /\ W.cell? ⟨M,3,none⟩ = some (.int .i64 fd) /\ W.cell? ⟨M,4,none⟩ = some (.int .i64 at_) /\ W.cell? ⟨M,5,none⟩ = some (.int .i64 n) /\ W.cell? ⟨M,6,none⟩ = some (.int .u64 (til : Int)) /\ W.cell? ⟨M,7,none⟩ = some (.int .i64 sp) /\ W.cell? ⟨M,8,none⟩ = some (.slice da dl dc) from
  fun W M hM => ⟨cells_at hM 0,cells_at hM 1,cells_at hM 2,cells_at hM 3,cells_at hM 4,cells_at hM 5,cells_at hM 6,cells_at hM 7,cells_at hM 8⟩)
 have HL:=qh hLB
 have HC:=qh (fun (W : World) (hW : StIn W L B C s t sn fp σ) (hBW : B <= W.heap.size) (hDW : Bs W da dl dc ds) => write_any hW ok hfd hLB hCB hBW 5 (strOf p) (strOf x) fd at_ n til sp da dl dc ds hDW)
 have HD0:=qh (hD.below hb0)
 generalize writeS σ fd ds = r at *
 clear ok hfd hLB hD
 have HW0:=qh (aI hw0 hw1)
 have H0:=qh (h.below (Nat.le_trans hCB hB) hb0)
 have hF0 : Fr B w w0:=Fr.of hb0 hB
 obtain ⟨N,hN⟩:=qnm (w.heap.size + 1)
 obtain ⟨M,hM⟩:=qnm w.heap.size
 rw [hs1,<- hN] at hz0
 rw [<- hM] at hz1
 obtain ⟨o0,o1,o2,o3,o4,o5,o6,o7,o8⟩:=HOV.out w0 M hz1
 have HB0:=qh (aI hF0 (aI (show B <= w0.heap.size by omega) (aI (show w.heap.size <= N by omega) (aI (show N < w0.heap.size by omega) (aI (show B <= N by omega) (show M < w0.heap.size by omega))))))
 have HN:=qh (aI hN hM)
 have HZ0:=qh (aI hz0 hz1)
 have HH:=qh (aI hCB hB)
 clear h hb0 hb0' hb1 hz0 hz1 hw0 hw1 hs1 hs0 hN hM hpt hp hx hg hF0 HZ1 
 unfold ovCells at HP
 try unfold ovCells at HC
 go_enter Tryz.func16,Tryz.ntmps16
 go_upto_region 1 with fail
 have HWX:=qh HW0.out
 unfold rpZ ovCells at HWX
 unfold ovCells
 rw [<- HWX.out.2,<- HWX.out.1,<- HN.out.1,<- HN.out.2]
 clear HWX HW0
 go_wp2_with fail
 refine HP.out.mono ?_
 rintro e w2 ⟨⟨v,rfl,hO⟩,hb2⟩
 have hv : v = .slice none 0 0 ∨ ∃ ad cap,v = .slice ad 0 cap:=by
  obtain ⟨vs,h1,_⟩:=hO
  rcases h1.2 with ⟨h1,_⟩ | ⟨g,cap,cur,h1,_⟩
  ·exact .inl h1
  ·exact .inr ⟨_,_,h1⟩
 have hz2 : w2.heap[N]? = some (.cells rpZ TReply (0,0)):=(hb2.block N HB0.out.2.2.2.1).trans HZ0.out.1
 clear o0 o1 o2 o3 o4 o5 o6 o7 o8
 obtain ⟨o0,o1,o2,o3,o4,o5,o6,o7,o8⟩:=HOV.out w2 M ((hb2.block M HB0.out.2.2.2.2.2).trans HZ0.out.2)
 have hS2:=H0.out.below (Nat.le_trans HH.out.1 HB0.out.2.1) hb2
 have hF2 : Fr B w w2:=HB0.out.1.trans (Fr.of hb2 HB0.out.2.1)
 have hB2 : B <= w2.heap.size:=Nat.le_trans HB0.out.2.1 hb2.size
 have HCC:=qh (HC.out w2 hS2 hB2 (HD0.out.below hb2))
 have HF:=qh hF2
 have HZ2:=qh hz2
 clear hS2 hF2 hB2 hb2 hO HC hz2 HD0
 obtain ⟨ad,cap,rfl⟩ : ∃ ad cap,v = .slice ad 0 cap:=by
  rcases hv with rfl | h
  ·exact ⟨_,_,rfl⟩
  ·exact h
 go_wp2_with fail
 refine HCC.out.mono ?_
 rintro e w3 ⟨rfl,⟨fp',hS3⟩,hF3⟩
 have hz3:=hF3.2 N _ _ HZ2.out
 have HG:=qh (aI hS3 (HF.out.trans hF3))
 clear hS3 hF3
 unfold noC
 go_wp2_with (refine wpList_store_row rfl TReply (.tmp 4) (.tmp 63) rfl N (noC r.2.1 r.2.2) rfl rfl TReply rpZ hz3 (by kernel_rfl) (by kernel_rfl) (by kernel_rfl) ?_)
 refine bodyPost_ret (v:=.agg (noC r.2.1 r.2.2)) (results_cell_row rfl _ _ N TReply _ (0,0) _ rfl (setRow_heap _ _ _ _ TReply (0,0) hz3) Tryz.underlying36 rfl (by kernel_rfl)) rfl ?_
 exact ⟨rfl,⟨_,HG.out.1.setReply HL.out HH.out.1 HB0.out.2.2.2.2.1 hz3⟩,HG.out.2.setRow HB0.out.2.2.2.2.1 HB0.out.2.2.1 _⟩
end
section
open Go.RowKit
def fileN (m u : Nat) (cl : Bool) : Nd:=⟨1,1,1,m,u,cl⟩
def aTr (b : List UInt8) (u : Nat) (cl : Bool) : Tr:=[(0,⟨⟨0,2,1,0,0,true⟩,[],[([97],1)]⟩),(1,⟨fileN b.length u cl,b,[]⟩)]
def aSt (b : List UInt8) (u : Nat) : StM:=⟨aTr b u true,noSn,0,fun _ => none⟩
def oSt (b : List UInt8) : StM:=⟨aTr b 0 false,noSn,0,updF (fun _ => none) 0 (some ⟨true,1,[]⟩)⟩
theorem create_a : createS 0 newSt [[97]] = (oSt [],0,0):=by kernel_rfl
theorem write_a : writeS (oSt []) 0 [97,119,97,107,101] = (oSt [97,119,97,107,101],0,5):=by kernel_rfl
theorem close_a (b : List UInt8) : closeS (oSt b) 0 5 = (aSt b 5,0):=by
 have hf : updF (oSt b).fds 0 none = fun _ => none:=funext fun j => by
  unfold oSt updF
  by_cases h : j = 0
  ·simp [h]
  ·simp [h]
 show ((⟨aTr b 5 true,noSn,0,updF (oSt b).fds 0 none⟩ : StM),0) = _
 rw [hf]
 rfl
theorem keep_a (b : List UInt8) (u x : Nat) (h : x <= 1099511627776) : keepS (aSt b u) [[97]] x = if x < u then (aSt b u,28) else (aSt b x,0):=by
 have hm : ¬ MTn < x:=by unfold MTn; omega
 have h1 : wormKeep (fileN b.length u true) x = if x < u then 28 else 0:=by
  have e : wormKeep (fileN b.length u true) x = if x < u then 28 else if MTn < x then 1 else 0:=rfl
  rw [e,if_neg hm]
 have h2 : keepT (aTr b u true) 1 x = if x < u then (28,aTr b u true) else (0,aTr b x true):=by
  have e : keepT (aTr b u true) 1 x = if x < u then (28,aTr b u true) else if MTn < x then (1,aTr b u true) else (0,aTr b x true):=rfl
  rw [e,if_neg hm]
 have e : keepS (aSt b u) [[97]] x = if wormKeep (fileN b.length u true) x ≠ 0 then (aSt b u,wormKeep (fileN b.length u true) x) else ((⟨(keepT (aTr b u true) 1 x).2,noSn,0,fun _ => none⟩ : StM),(keepT (aTr b u true) 1 x).1):=rfl
 rw [e,h1,h2]
 by_cases hx : x < u
 ·simp [hx]
 ·simp [hx]; rfl
theorem unl_a (b : List UInt8) (u : Nat) (h : 0 < u) : unlWhy (aSt b u) [[97]] = 28:=by
 have e : unlWhy (aSt b u) [[97]] = wormRemove (fileN b.length u true) 0:=rfl
 rw [e]
 unfold wormRemove
 rw [if_pos ⟨rfl,rfl,by show (1 : Int) <= 1; omega,h⟩]
theorem getK_a {b : List UInt8} {u : Nat} {cl : Bool} {i : Nat} {x : It} (h : getK i (aTr b u cl) = some x) : (i = 0 /\ x = ⟨⟨0,2,1,0,0,true⟩,[],[([97],1)]⟩) ∨ (i = 1 /\ x = ⟨fileN b.length u cl,b,[]⟩):=by
 by_cases h0 : i = 0
 ·subst h0
  have e : getK 0 (aTr b u cl) = some ⟨⟨0,2,1,0,0,true⟩,[],[([97],1)]⟩:=rfl
  rw [e] at h
  injection h with h
  exact .inl ⟨rfl,h.symm⟩
 ·by_cases h1 : i = 1
  ·subst h1
   have e : getK 1 (aTr b u cl) = some ⟨fileN b.length u cl,b,[]⟩:=rfl
   rw [e] at h
   injection h with h
   exact .inr ⟨rfl,h.symm⟩
  ·unfold getK aTr at h
   simp [show ¬ 0 = i from fun e => h0 e.symm,show ¬ 1 = i from fun e => h1 e.symm] at h
theorem tr_a (b : List UInt8) (u : Nat) (cl : Bool) (hb : b.length <= 4096) (hu : u <= 1099511627776) : TrOk 1 (aTr b u cl):=by
 refine ⟨⟨_,rfl,rfl⟩,fun i x hx => ?_,fun i x s k hx hs => ?_,by simp [aTr]⟩
 ·rcases getK_a hx with ⟨rfl,rfl⟩ | ⟨rfl,rfl⟩
  ·exact ⟨Nat.zero_le _,rfl,by decide,rfl,by decide⟩
  ·refine ⟨Nat.le_refl _,rfl,?_,rfl,Nat.zero_le _⟩
   show (0 : Int) <= 1 /\ (1 : Int) <= 65535 /\ (0 : Int) <= 1 /\ (1 : Int) <= 65535 /\ (((1 : Int) = 1 /\ (0 : Int) <= ((b.length : Nat) : Int) /\ ((b.length : Nat) : Int) <= 4096 /\ u <= 1099511627776) ∨ _)
   refine ⟨by omega,by omega,by omega,by omega,.inl ⟨rfl,by omega,by omega,hu⟩⟩
 ·rcases getK_a hx with ⟨rfl,rfl⟩ | ⟨rfl,rfl⟩
  ·unfold getK at hs
   by_cases h : [97] = s
   ·simp [h] at hs
    subst hs
    exact ⟨⟨_,rfl⟩,by decide,by rw [<- h]; decide⟩
   ·simp [h] at hs
  ·simp [getK] at hs
theorem shut_a (b : List UInt8) (u : Nat) : Shut0 (aTr b u true):=fun i x hx hk => by
 rcases getK_a hx with ⟨rfl,rfl⟩ | ⟨rfl,rfl⟩ <;> rfl
theorem cnt_a (b : List UInt8) (u : Nat) (cl : Bool) : cntN (aTr b u cl) 8 0 = [1]:=rfl
theorem good_a (b : List UInt8) (u : Nat) (hb : b.length <= 4096) (hu : u <= 1099511627776) : TrGood 1 (aTr b u true):=by
 have hok:=tr_a b u true hb hu
 refine ⟨hok,⟨?_,fun k => ?_,fun k y hy hk => ?_,fun k y hy => ?_,fun k y hy hl => ?_⟩,fun p hp => ?_,?_⟩
 ·exact ⟨_,rfl,rfl,fun p hp => by
   simp only [List.mem_singleton] at hp
   subst hp
   exact ⟨by decide,_,rfl,fun h => absurd h (by simp [fileN])⟩⟩
 ·rw [cnt_a]
  by_cases h : k = 1
  ·simp [h]
  ·rw [List.count_eq_zero.2 (by simp; exact h)]; omega
 ·rw [cnt_a]
  rcases getK_a hy with ⟨rfl,rfl⟩ | ⟨rfl,rfl⟩
  ·decide
  ·simp [fileN] at hk
 ·rw [cnt_a]
  rcases getK_a hy with ⟨rfl,rfl⟩ | ⟨rfl,rfl⟩
  ·rfl
  ·rfl
 ·rcases getK_a hy with ⟨rfl,rfl⟩ | ⟨rfl,rfl⟩
  ·simp at hl
  ·simp [fileN] at hl
 ·simp only [aTr,List.mem_cons,List.not_mem_nil,or_false] at hp
  rcases hp with rfl | rfl
  ·exact ⟨by decide,by decide,rfl,by decide,by decide,fun p hp => by
    simp only [List.mem_singleton] at hp
    subst hp
    exact ⟨by decide,by decide⟩,by simp,fun h => absurd rfl h,.inr rfl⟩
  ·exact ⟨(hok.nd 1 _ rfl).2.2.1,by show u < _; omega,rfl,hb,by simp,fun p hp => by simp at hp,by simp,fun _ => rfl,.inl rfl⟩
 ·simp [aTr]
theorem sn_a : Sn0 noSn:=⟨rfl,by decide,by decide,rfl⟩
theorem lenB (b : List UInt8) (h : b.length <= 4096) : (lenBytes b).length = b.length + 2:=by
 unfold lenBytes
 rw [List.length_append,be_length,List.length_take]
 omega
theorem len_a (b : List UInt8) (u now : Nat) (hb : b.length <= 4096) : (stBytes (aTr b u true) noSn now).length <= b.length + 100:=by
 have h1 : (itBytes ⟨⟨0,2,1,0,0,true⟩,[],[([97],1)]⟩).length = 27:=by decide
 have h2 : (itBytes ⟨fileN b.length u true,b,[]⟩).length = 22 + b.length:=by
  unfold itBytes
  simp only [List.length_append,be_length]
  rw [lenB _ (by rw [Nd.bytes_length]; omega),Nd.bytes_length,lenB b hb]
  simp [nmBytes]
  omega
 have h3 : (treeBytes (aTr b u true)).length = 51 + b.length:=by
  unfold treeBytes aTr
  simp only [List.map_cons,List.map_nil,List.flatten_cons,List.flatten_nil,List.append_nil,List.length_append,be_length]
  rw [h1,h2]; omega
 unfold stBytes
 simp only [List.length_append,be_length]
 rw [h3]
 have h4 : (snBytes0 noSn).length = 11:=by decide
 rw [h4]; omega
theorem new_good : TrGood 1 newSt.T:=by
 have h1 : ∀ i (x : It),getK i newSt.T = some x -> i = 0 /\ x = freshIt 0 2:=fun i x hx => by
  unfold getK newSt at hx
  by_cases h0 : 0 = i
  ·simp [h0] at hx; exact ⟨h0.symm,by rw [<- hx,<- h0]⟩
  ·simp [h0] at hx
 have hc : cntN newSt.T 8 0 = []:=rfl
 have hok : TrOk 1 newSt.T:=⟨newT_ok.root,fun i x hx => by
  obtain ⟨a,b,c,d,e⟩:=newT_ok.nd i x hx
  exact ⟨by omega,b,c,d,by omega⟩,newT_ok.nm,newT_ok.len⟩
 refine ⟨hok,⟨?_,fun k => ?_,fun k y hy hk => ?_,fun k y hy => ?_,fun k y hy hl => ?_⟩,fun p hp => ?_,?_⟩
 ·exact ⟨_,rfl,rfl,fun p hp => by simp [freshIt] at hp⟩
 ·rw [hc]; simp
 ·rw [hc]; obtain ⟨rfl,rfl⟩:=h1 k y hy; decide
 ·rw [hc]; obtain ⟨rfl,rfl⟩:=h1 k y hy; rfl
 ·obtain ⟨rfl,rfl⟩:=h1 k y hy; simp [freshIt] at hl
 ·simp only [newSt,List.mem_singleton] at hp
  subst hp
  exact ⟨by decide,by decide,rfl,by decide,by decide,fun p hp => by simp [freshIt] at hp,by simp [freshIt],fun h => absurd rfl h,.inr rfl⟩
 ·simp [newSt]
theorem split_a : pathSplit [47,97] = ([[97]],0):=by decide
theorem enc_create : opEnc ⟨1,[47,97],[],0,0,0,0,0,[]⟩ = ([1,0,2,47,97],0):=by decide
theorem enc_write : opEnc ⟨5,[],[],0,0,0,0,0,[97,119,97,107,101]⟩ = ([5,0,0,0,5,97,119,97,107,101],0):=by decide
theorem enc_close : opEnc ⟨6,[],[],0,0,0,5,0,[]⟩ = ([6,0,0,0,0,0,0,0,0,0,5],0):=by decide
theorem enc_keep (u : Nat) : opEnc ⟨13,[47,97],[],0,0,0,u,0,[]⟩ = ([13,0,2,47,97] ++ be u 8,0):=by
 have : opEnc ⟨13,[47,97],[],0,0,0,u,0,[]⟩ = (be 13 1 ++ (lenBytes [47,97] ++ ([] ++ ([] ++ ([] ++ ([] ++ (be u 8 ++ ([] ++ []))))))),0):=rfl
 rw [this]
 have e1 : be 13 1 = [13]:=by decide
 have e2 : lenBytes [47,97] = [0,2,47,97]:=by decide
 rw [e1,e2]
 simp
end
section
open Go.RowKit Go.ChangeMaps Go.MapKept
theorem ten_le (s : List (List UInt8)) (h : s = [[97]]) : ∀ x ∈ s,x.length <= 1000000:=fun x hx => by
 subst h
 rw [List.mem_singleton.1 hx]
 decide
theorem o_fds (b : List UInt8) : ∀ i o,i < 8 -> (oSt b).fds i = some o -> o.id <= 1000000:=fun i o _ ho => by
 unfold oSt updF at ho
 by_cases h : i = 0
 ·simp [h] at ho; subst ho; decide
 ·simp [h] at ho
variable {w : World} {B : Nat}
theorem vd_sync (hg : Glob w) (σ : StM) (p x : List UInt8) (hp : p.length <= 1000000) (hx : x.length <= 1000000) (fd at_ n : Int) (til : Nat) (sp : Int) (da : Option Addr) (dl dc : Nat) : VDo w B σ σ (ovCells 17 (strOf p) (strOf x) fd at_ n til sp da dl dc) 0 0 zeroNd RPnil:=by
 intro W s' t' sn' fp' B' hB hwB hBW hb hst
 refine (do_sync hst hB (Nat.le_refl _) hBW (hg.below hb) p x hp hx fd at_ n til sp da dl dc).mono ?_
 rintro e w' ⟨rfl,⟨fp,h⟩,hF⟩
 exact ⟨⟨none,0,0,none,0,0,rfl,rfl,rfl⟩,⟨_,_,fp,h⟩,hF⟩
theorem vd_create (hg : Glob w) : VDo w B newSt (oSt []) (ovCells 1 (strOf [47,97]) (strOf []) 0 0 0 0 0 none 0 0) 0 0 zeroNd RPnil:=by
 intro W s' t' sn' fp' B' hB hwB hBW hb hst
 have h:=do_create (c:=0) hst newT_ok (by omega) hB (Nat.le_refl _) hBW (hg.below hb) [47,97] [] (by decide) (by decide) [[97]] split_a (ten_le _ rfl) 0 0 0 0 0 none 0 0 (by decide)
 rw [create_a] at h
 refine h.mono ?_
 rintro e w' ⟨rfl,⟨fp,h⟩,hF⟩
 exact ⟨⟨none,0,0,none,0,0,rfl,rfl,rfl⟩,⟨_,_,fp,h⟩,hF⟩
theorem vd_write (hg : Glob w) (da : Option Addr) (dc : Nat) (hD : Bs w da 5 dc [97,119,97,107,101]) : VDo w B (oSt []) (oSt [97,119,97,107,101]) (ovCells 5 (strOf []) (strOf []) 0 0 0 0 0 da 5 dc) 0 5 zeroNd RPnil:=by
 intro W s' t' sn' fp' B' hB hwB hBW hb hst
 have h:=do_write (c:=1) hst (tr_a [] 0 false (by decide) (by decide)) (o_fds []) hB (Nat.le_refl _) hBW (hg.below hb) [] [] (by decide) (by decide) 0 0 0 0 0 da 5 dc _ (hD.below hb)
 rw [write_a] at h
 refine h.mono ?_
 rintro e w' ⟨rfl,⟨fp,h⟩,hF⟩
 exact ⟨⟨none,0,0,none,0,0,rfl,rfl,rfl⟩,⟨_,_,fp,h⟩,hF⟩
theorem vd_close (hg : Glob w) (b : List UInt8) (hb4 : b.length <= 4096) : VDo w B (oSt b) (aSt b 5) (ovCells 6 (strOf []) (strOf []) 0 0 0 5 0 none 0 0) 0 0 zeroNd RPnil:=by
 intro W s' t' sn' fp' B' hB hwB hBW hb hst
 have h:=do_close (c:=1) hst (tr_a b 0 false hb4 (by decide)) (o_fds b) hB (Nat.le_refl _) hBW (hg.below hb) [] [] (by decide) (by decide) 0 0 0 5 0 none 0 0
 rw [close_a] at h
 refine h.mono ?_
 rintro e w' ⟨rfl,⟨fp,h⟩,hF⟩
 exact ⟨⟨none,0,0,none,0,0,rfl,rfl,rfl⟩,⟨_,_,fp,h⟩,hF⟩
theorem vd_keep (hg : Glob w) (b : List UInt8) (u x : Nat) (hb4 : b.length <= 4096) (hu : u <= 1099511627776) (hx : x <= 1099511627776) : VDo w B (aSt b u) (if x < u then aSt b u else aSt b x) (ovCells 13 (strOf [47,97]) (strOf []) 0 0 0 x 0 none 0 0) (if x < u then 28 else 0) 0 zeroNd RPnil:=by
 intro W s' t' sn' fp' B' hB hwB hBW hb hst
 have h:=do_keep (c:=1) hst (tr_a b u true hb4 hu) (by omega) hB (Nat.le_refl _) hBW (hg.below hb) [47,97] [] (by decide) (by decide) [[97]] split_a (ten_le _ rfl) 0 0 0 x 0 none 0 0
 rw [keep_a b u x hx] at h
 refine h.mono ?_
 rintro e w' ⟨rfl,⟨fp,h⟩,hF⟩
 by_cases hxu : x < u
 ·simp only [hxu,if_true] at h ⊢
  exact ⟨⟨none,0,0,none,0,0,rfl,rfl,rfl⟩,⟨_,_,fp,h⟩,hF⟩
 ·simp only [hxu,if_false] at h ⊢
  exact ⟨⟨none,0,0,none,0,0,rfl,rfl,rfl⟩,⟨_,_,fp,h⟩,hF⟩
theorem vd_stat (hg : Glob w) (b : List UInt8) (u : Nat) (hb4 : b.length <= 4096) (hu : u <= 1099511627776) : VDo w B (aSt b u) (aSt b u) (ovCells 12 (strOf [47,97]) (strOf []) 0 0 0 0 0 none 0 0) 0 0 (fileN b.length u true) RPnil:=by
 intro W s' t' sn' fp' B' hB hwB hBW hb hst
 have h:=do_stat (c:=1) hst (tr_a b u true hb4 hu) (by omega) hB (Nat.le_refl _) hBW (hg.below hb) [47,97] [] (by decide) (by decide) [[97]] split_a (ten_le _ rfl) 0 0 0 0 0 none 0 0 rfl
 have e : nodeS (aSt b u).T [[97]] = (fileN b.length u true,0):=rfl
 rw [e] at h
 refine h.mono ?_
 rintro e w' ⟨rfl,⟨fp,h⟩,hF⟩
 exact ⟨⟨none,0,0,none,0,0,rfl,rfl,rfl⟩,⟨_,_,fp,h⟩,hF⟩
theorem vd_unlink (hg : Glob w) (b : List UInt8) (u : Nat) (hb4 : b.length <= 4096) (hu : u <= 1099511627776) (h0 : 0 < u) : VDo w B (aSt b u) (aSt b u) (ovCells 8 (strOf [47,97]) (strOf []) 0 0 0 0 0 none 0 0) 28 0 zeroNd RPnil:=by
 intro W s' t' sn' fp' B' hB hwB hBW hb hst
 have h:=do_unlink (c:=1) hst (tr_a b u true hb4 hu) (by omega) hB (Nat.le_refl _) hBW (hg.below hb) [47,97] [] (by decide) (by decide) [[97]] split_a (ten_le _ rfl) 0 0 0 0 0 none 0 0 (by rw [unl_a b u h0]; decide)
 rw [unl_a b u h0] at h
 refine h.mono ?_
 rintro e w' ⟨rfl,⟨fp,h⟩,hF⟩
 exact ⟨⟨none,0,0,none,0,0,rfl,rfl,rfl⟩,⟨_,_,fp,h⟩,hF⟩
end
section
open Go.RowKit Go.ChangeMaps Go.MapKept
def idB : List UInt8:=[48,49,50,51,52,53,54,55,56,57,97,98,99,100,101,102]
def KMem (w : World) (B0 n g d v : Nat) (S : List UInt8) (V : VltM) : Prop :=
 ∃ B sb mb st l lh wv iv hv,VIn w B d sb mb n (n / 4) g S idB v st l lh wv iv hv V /\ (B0 <= B /\ B0 <= d /\ B0 <= sb /\ B0 <= mb) /\ (V.M.wait = [] -> wv = .slice none 0 0)
structure KDk (n g : Nat) (S : List UInt8) (P0 P1 : PtV) (sg : Nat -> List UInt8) : Prop where
 hn : 64 <= n
 hp : isPlan (n : Int) ((n / 4 : Nat) : Int) (g : Int)
 ok : DOk S n (n / 4) g idB (ptBytes (n / 4) P0.m) (ptBytes (n / 4) P1.m) sg
 g0 : P0.Good g (n / 4) 1
 g1 : P1.Good g (n / 4) 1
 p0 : P0.m.gen % 2 = 0
 p1 : P1.m.gen % 2 = 1
structure KD (n g : Nat) (S : List UInt8) (V : VltM) (P0 P1 : PtV) (sg : Nat -> List UInt8) : Prop where
 dk : KDk n g S P0 P1 sg
 z : ∀ i : Nat,V.M.sealed <= i -> i < g -> sg i = List.replicate 1024 0
 le0 : P0.m.gen <= V.gen
 le1 : P1.m.gen <= V.gen
 log : LogOk g V.M
 one : 1 <= V.M.next
theorem KMem.below {w w' : World} {B0 n g d v : Nat} {S : List UInt8} {V : VltM} (h : KMem w B0 n g d v S V) (hb : Below w.heap.size w w') : KMem w' B0 n g d v S V:=by
 obtain ⟨B,sb,mb,st,l,lh,wv,iv,hv,h1,h2⟩:=h
 exact ⟨B,sb,mb,st,l,lh,wv,iv,hv,h1.below hb,h2⟩
theorem KDk.room {n g : Nat} {S : List UInt8} {P0 P1 : PtV} {sg : Nat -> List UInt8} (h : KDk n g S P0 P1 sg) : 1 + 2 * (n / 4) + g * 8 <= n /\ 16 <= n / 4 /\ g <= 4096:=by
 obtain ⟨h1,h2,h3,h4⟩:=h.hp
 have hb:=h.hp.bd
 unfold seg at h4
 omega
theorem rc_m {w : World} {B l d : Nat} {s p g : Int} {hv wv : Value} {M : LogM} (h : LogIn w B l d s p g hv wv M) {r : Rc} (hr : r ∈ M.wait) : r.ys.length = r.m:=(h.wt.2 r hr).2.1
variable {w : World} {B0 n g d v c : Nat} {S : List UInt8} {V : VltM} {P0 P1 : PtV} {sg : Nat -> List UInt8}
section
variable (k : Nat) (hk : 1 <= k /\ k <= 17) (p x : List UInt8) (fd at_ nn : Int) (til : Nat) (sp : Int) (da : Option Addr) (dl dc : Nat) (σ' : StM) (nr : Int) (nd : Nd)
include hk
theorem k_no (hK : KMem w B0 n g d v S V) (ok : TrOk c V.σ.T) (hc : c <= 60000) (hl8 : V.σ.S.l.length <= 8) (er : Int) (her : er ≠ 0) (HDO : ∀ B,VDo w B V.σ σ' (ovCells k (strOf p) (strOf x) fd at_ nn til sp da dl dc) er nr nd RPnil) :
  Calls Tryz.prog 5 #[.pointer (some ⟨v,0,none⟩),.agg (ovCells k (strOf p) (strOf x) fd at_ nn til sp da dl dc)] w fun e w' => e = .returned (.agg (rpC er nr (.slice none 0 0) (.slice none 0 0) nd)) /\ KMem w' B0 n g d v S V /\ Fr B0 w w':=by
 obtain ⟨B,sb,mb,st,l,lh,wv,iv,hv,h1,h2,h3⟩:=hK
 refine (vdo_no h1 ok hc hl8 h2 k hk p x fd at_ nn til sp da dl dc σ' nr nd er her (HDO B)).mono ?_
 rintro e w' ⟨rfl,h,hF⟩
 exact ⟨rfl,⟨B,sb,mb,st,l,lh,wv,iv,hv,h,h2,h3⟩,hF⟩
theorem k_look (hK : KMem w B0 n g d v S V) (ok : TrOk c V.σ.T) (hc : c <= 60000) (hl8 : V.σ.S.l.length <= 8) (ht : turnsN k = false) (hs : safeN k (writesS V.σ fd) = 0) (HDO : ∀ B,VDo w B V.σ V.σ (ovCells k (strOf p) (strOf x) fd at_ nn til sp da dl dc) 0 nr nd RPnil) :
  Calls Tryz.prog 5 #[.pointer (some ⟨v,0,none⟩),.agg (ovCells k (strOf p) (strOf x) fd at_ nn til sp da dl dc)] w fun e w' => e = .returned (.agg (rpC 0 nr (.slice none 0 0) (.slice none 0 0) nd)) /\ KMem w' B0 n g d v S V /\ Fr B0 w w':=by
 obtain ⟨B,sb,mb,st,l,lh,wv,iv,hv,h1,h2,h3⟩:=hK
 refine (vdo_look h1 ok hc hl8 h2 k hk p x fd at_ nn til sp da dl dc V.σ nr nd ht hs RPnil (fun b W W' dv lv _ _ h => h) (HDO B)).mono ?_
 rintro e w' ⟨⟨b,dv,lv,rfl,_,h4,h5⟩,⟨st',h⟩,hF⟩
 rw [h4,h5]
 exact ⟨rfl,⟨B,sb,mb,st',l,lh,wv,iv,hv,h,h2,h3⟩,hF⟩
theorem k_turn (hK : KMem w B0 n g d v S V) (hD : KD n g S V P0 P1 sg) (ok : TrOk c V.σ.T) (hc : c <= 60000) (hl8 : V.σ.S.l.length <= 8) (ds E : List UInt8) (hdB : Bs w da dl dc ds) (ht : turnsN k = true) (hs : safeN k (writesS V.σ fd) = 0) (hen : opEnc ⟨k,p,x,fd,at_,nn,til,sp,ds⟩ = (E,0)) (hEl : E.length <= 900)
  (hroom : V.M.sealed < g) (hsum : waitB V.M.wait + 15 + E.length <= 942) (hnx : V.M.next + V.M.wait.length + 1 <= 1000000) (hwl : V.M.wait.length + 1 <= 1000) (HDO : ∀ B,VDo w B V.σ σ' (ovCells k (strOf p) (strOf x) fd at_ nn til sp da dl dc) 0 nr nd RPnil) :
  Calls Tryz.prog 5 #[.pointer (some ⟨v,0,none⟩),.agg (ovCells k (strOf p) (strOf x) fd at_ nn til sp da dl dc)] w fun e w' => e = .returned (.agg (rpC 0 nr (.slice none 0 0) (.slice none 0 0) nd)) /\ (∃ V',KMem w' B0 n g d v S V' /\ KD n g S V' P0 P1 sg /\ V'.σ = σ' /\ V'.M.sealed = V.M.sealed /\ V'.M.next = V.M.next /\ V'.M.wait.length = V.M.wait.length + 1 /\ waitB V'.M.wait = waitB V.M.wait + 15 + E.length /\ V'.gen = V.gen) /\ Fr B0 w w':=by
 obtain ⟨B,sb,mb,st,l,lh,wv,iv,hv,h1,h2,h3⟩:=hK
 refine (vdo_turn h1 ok hc hl8 h2 k hk p x fd at_ nn til sp da dl dc σ' nr nd ds E hdB ht hs hen hEl hD.dk.hp hD.log (by omega) hsum (by omega) hwl (HDO B)).mono ?_
 rintro e w' ⟨rfl,⟨st',wv',r',hr,hlo,h⟩,hF⟩
 have hm : r'.m = E.length:=by
  rw [<- rc_m h.log (List.mem_append_right _ (List.mem_singleton.2 rfl))]
  unfold Rc.core at hr
  injection hr with _ hr
  injection hr with _ hr
  rw [hr]
 refine ⟨rfl,⟨_,⟨B,sb,mb,st',l,lh,wv',iv,hv,h,h2,fun e => by simp at e⟩,⟨hD.dk,hD.z,hD.le0,hD.le1,hlo,hD.one⟩,rfl,rfl,rfl,by simp,?_,rfl⟩,hF⟩
 show waitB (V.M.wait ++ [r']) = _
 rw [waitB_app,hm]
 omega
theorem k_shut (hK : KMem w B0 n g d v S V) (hD : KD n g S V P0 P1 sg) (ok : TrOk c V.σ.T) (hc : c <= 60000) (hl8 : V.σ.S.l.length <= 8) (ds E : List UInt8) (hdB : Bs w da dl dc ds) (ht : turnsN k = true) (hs : safeN k (writesS V.σ fd) = 1) (hen : opEnc ⟨k,p,x,fd,at_,nn,til,sp,ds⟩ = (E,0)) (hEl : E.length <= 900)
  (hroom : V.M.sealed < g) (hsum : waitB V.M.wait + 15 + E.length <= 942) (hnx : V.M.next + V.M.wait.length + 1 <= 1000000) (hwl : V.M.wait.length + 1 <= 1000) (HDO : ∀ B,VDo w B V.σ σ' (ovCells k (strOf p) (strOf x) fd at_ nn til sp da dl dc) 0 nr nd RPnil) :
  Calls Tryz.prog 5 #[.pointer (some ⟨v,0,none⟩),.agg (ovCells k (strOf p) (strOf x) fd at_ nn til sp da dl dc)] w fun e w' => e = .returned (.agg (rpC 0 nr (.slice none 0 0) (.slice none 0 0) nd)) /\ (∃ S' V' sg',KMem w' B0 n g d v S' V' /\ KD n g S' V' P0 P1 sg' /\ V'.σ = σ' /\ V'.M.sealed = V.M.sealed + 1 /\ V'.M.next = V.M.next + V.M.wait.length + 1 /\ V'.M.wait = [] /\ V'.gen = V.gen) /\ Fr B0 w w':=by
 obtain ⟨B,sb,mb,st,l,lh,wv,iv,hv,h1,h2,h3⟩:=hK
 have hrm:=hD.dk.room
 refine (vdo_shut h1 ok hc hl8 h2 k hk p x fd at_ nn til sp da dl dc σ' nr nd ds E hdB ht hs hen hEl hD.dk.hp hD.log (by omega) hsum (by omega) hwl (by omega) (HDO B)).mono ?_
 rintro e w' ⟨rfl,⟨st',lh',S',r',hr,hlo,hrm',h,hS⟩,hF⟩
 have hsb : (segBytes V.M.sealed V.M.next V.M.head (V.M.wait ++ [r'])).length = 1024:=segBytes_length _ _ _ _ hD.log.hd (by
  have h4:=(fitsN_all _ _ (fun q hq => ?_) hlo.fit).2
  ·exact h4
  ·rcases List.mem_append.1 hq with hq | hq
   ·exact rc_m h1.log hq
   ·rw [List.mem_singleton.1 hq]; exact hrm')
 refine ⟨rfl,⟨S',_,_,⟨B,sb,mb,st',l,lh',_,iv,hv,h,h2,fun _ => rfl⟩,⟨⟨hD.dk.hn,hD.dk.hp,hD.dk.ok.seal hrm.1 hroom hsb hS,hD.dk.g0,hD.dk.g1,hD.dk.p0,hD.dk.p1⟩,fun i hi hg => ?_,hD.le0,hD.le1,hlo.shut (by show (V.M.sealed : Int) < g; omega),?_⟩,rfl,rfl,?_,rfl,rfl⟩,hF⟩
 ·have hi' : V.M.sealed + 1 <= i:=hi
  rw [if_neg (by omega)]
  exact hD.z i (by omega) hg
 ·show 1 <= V.M.next + _
  have:=hD.one
  omega
 ·show V.M.next + (V.M.wait ++ [r']).length = _
  simp
  omega
end
end
end Go.Proofs.YtabdcphioccgnaaGreatDoor
