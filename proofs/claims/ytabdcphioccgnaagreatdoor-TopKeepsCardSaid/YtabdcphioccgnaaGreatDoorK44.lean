/- VDo. -/
import Derived.Test.YtabdcphioccgnaaGreatDoorK30
import Derived.Test.YtabdcphioccgnaaGreatDoorK43
set_option maxRecDepth 100000
set_option maxHeartbeats 8000000
namespace Go.Proofs.YtabdcphioccgnaaGreatDoor
section
open Go.RowKit Go.ChangeMaps Go.MapKept
def VDo (w : World) (B : Nat) (σ σ' : StM) (o : Array Value) (er nr : Int) (nd : Nd) (RP : Nat -> World -> Value -> Value -> Prop) : Prop :=
 ∀ W s' t' sn' fp' B',B <= B' -> w.heap.size <= B' -> B' <= W.heap.size -> Below w.heap.size w W -> StIn W B B' B' s' t' sn' fp' σ -> Calls Tryz.prog 16 #[.pointer (some ⟨s',0,none⟩),.agg o] W fun e w' => (∃ a1 n1 k1 a2 n2 k2,e = .returned (.agg (rpC er nr (.slice a1 n1 k1) (.slice a2 n2 k2) nd)) /\ RP B' w' (.slice a1 n1 k1) (.slice a2 n2 k2)) /\ (∃ t sn fp,StIn w' B B' B' s' t sn fp σ') /\ Fr B' W w'
def RPnil : Nat -> World -> Value -> Value -> Prop:=fun _ _ dv lv => dv = .slice none 0 0 /\ lv = .slice none 0 0
theorem vdo_no {w : World} {B0 B d sb mb n pn g v st l c : Nat} {S id : List UInt8} {lh wv iv hv : Value} {V : VltM} (h : VIn w B d sb mb n pn g S id v st l lh wv iv hv V) (ok : TrOk c V.σ.T) (hc : c <= 60000) (hl8 : V.σ.S.l.length <= 8) (hB0 : B0 <= B /\ B0 <= d /\ B0 <= sb /\ B0 <= mb)
  (k : Nat) (_hk : 1 <= k /\ k <= 17) (p x : List UInt8) (fd at_ nn : Int) (til : Nat) (sp : Int) (da : Option Addr) (dl dc : Nat) (σ' : StM) (nr : Int) (nd : Nd) (er : Int) (her : er ≠ 0) (HDO : VDo w B V.σ σ' (ovCells k (strOf p) (strOf x) fd at_ nn til sp da dl dc) er nr nd RPnil) :
  Calls Tryz.prog 5 #[.pointer (some ⟨v,0,none⟩),.agg (ovCells k (strOf p) (strOf x) fd at_ nn til sp da dl dc)] w fun e w' => e = .returned (.agg (rpC er nr (.slice none 0 0) (.slice none 0 0) nd)) /\ VIn w' B d sb mb n pn g S id v st l lh wv iv hv V /\ Fr B0 w w':=by
 obtain ⟨w1,hw1⟩:=qnm (w.alloc (.cells (ovCells k (strOf p) (strOf x) fd at_ nn til sp da dl dc) TOp))
 obtain ⟨w0,hw0⟩:=qnm (w1.alloc (.cells rpZ TReply))
 have hb1:=qba hw1
 have hb0':=qba hw0
 have hs1 : w1.heap.size = w.heap.size + 1:=by rw [hw1]; simp
 have hs0 : w0.heap.size = w.heap.size + 2:=by rw [hw0]; simp [hs1]
 have hb0 : Below w.heap.size w w0:=hb1.trans (hb0'.mono hb1.size)
 obtain ⟨N,hN⟩:=qnm w.heap.size
 have hz1 : w0.heap[N]? = some (.cells (ovCells k (strOf p) (strOf x) fd at_ nn til sp da dl dc) TOp (0,0)):=by rw [hN]; exact (hb0'.block _ (by omega)).trans (by rw [hw1]; exact heap_alloc_new w _)
 have hz0 : w0.heap[N + 1]? = some (.cells rpZ TReply (0,0)):=by rw [hN,<- hs1,hw0]; exact heap_alloc_new w1 _
 have h0:=h.below hb0
 obtain ⟨t,sn,fp,hst⟩:=h0.st
 have HCP:=qh (stcopy_any hst ok hc hl8 h0.size)
 have c1:=(vault_cells h0.cel).2.1
 obtain ⟨wr,hwr⟩:=qnm (writesS V.σ fd)
 have HX:=qh (aI h (aI hb0 (aI hz1 (aI hz0 (aI hB0 (aI hs0 (aI hN hwr)))))))
 have HW:=qh (aI hw0 (aI hw1 (aI hs1 hN)))
 obtain ⟨o0,o1,o2,o3,o4,o5,o6,o7,o8⟩:=ov_cells hz1
 unfold VDo at HDO
 have HNN:=qh hN
 clear h ok hc hl8 hB0 hw1 hw0 hb1 hb0' hs1 hs0 hb0 hz1 hz0 h0 hst hwr hN
 have HDO:=qh HDO
 go_enter Tryz.func5,Tryz.ntmps5
 go_upto_region 1 with fail
 have HWX:=qh HW.out
 unfold rpZ ovCells at HWX
 unfold ovCells
 rw [<- HWX.out.2.1,<- HWX.out.1,<- HWX.out.2.2.2]
 clear HWX HW
 go_wp2_with fail
 refine HCP.out.mono ?_
 rintro e w2 ⟨s2,t2,sn2,rfl,hS2,hb2⟩
 clear o0 o1 o2 o3 o4 o5 o6 o7 o8 c1 HCP
 have hzo2:=(hb2.block N (ltH HX.out.2.2.1)).trans HX.out.2.2.1
 obtain ⟨o0,o1,o2,o3,o4,o5,o6,o7,o8⟩:=ov_cells hzo2
 have hwr:=writes_any hS2 fd
 rw [<- HX.out.2.2.2.2.2.2.2] at hwr
 have HWR:=qh hwr
 have HDD:=qh (HDO.out w2 s2 t2 sn2 fp w0.heap.size (Nat.le_trans HX.out.1.size HX.out.2.1.size) HX.out.2.1.size hb2.size (HX.out.2.1.trans (hb2.mono HX.out.2.1.size)) hS2)
 unfold ovCells at HDD
 have H2:=qh hb2
 clear hS2 hb2 hzo2 hwr HDO
 go_wp2_with fail
 refine HWR.out.mono ?_
 rintro e w3 ⟨rfl,rfl⟩
 go_wp2_with fail
 refine HDD.out.mono ?_
 rintro e w3 ⟨⟨a1,n1,k1,a2,n2,k2,rfl,hRP⟩,⟨t3,sn3,fp3,hS3⟩,hF3⟩
 clear o0 o1 o2 o3 o4 o5 o6 o7 o8 HDD HWR
 obtain ⟨w4,hw4⟩:=qnm (w3.alloc (.cells (rpC er nr (.slice a1 n1 k1) (.slice a2 n2 k2) nd) TReply))
 obtain ⟨K,hK⟩:=qnm w3.heap.size
 have hb34:=qba hw4
 have hb03 : Below w0.heap.size w0 w3:=H2.out.trans hF3.1
 have hb04 : Below w0.heap.size w0 w4:=hb03.trans (hb34.mono hb03.size)
 have hd4 : (DoS w w4 B0 B d sb mb n pn g S id v st l lh wv iv hv V s2 σ' N K (ovCells k (strOf p) (strOf x) fd at_ nn til sp da dl dc) (rpC er nr (.slice a1 n1 k1) (.slice a2 n2 k2) nd)):=(by
  obtain ⟨h,hb0,hz1,hz0,hB0,hs0,hN,_⟩:=HX.out
  have hb4:=hb0.trans (hb04.mono hb0.size)
  exact ⟨h.below hb4,StAt.chgs ⟨_,_,_,hS3.frozen (Nat.le_trans h.size hb0.size)⟩ hb34,(hb04.block N (ltH hz1)).trans hz1,(hb04.block (N + 1) (ltH hz0)).trans hz0,by rw [hw4,hK]; exact heap_alloc_new w3 _,Nat.le_of_eq hN.symm,Fr.of hb4 (Nat.le_trans hB0.1 h.size),hB0,h.size⟩)
 have HD4:=qh hd4
 clear hd4
 have HR4:=qh (aI hRP (aI hb34 (aI (aI (HX.out.2.1.trans (hb04.mono HX.out.2.1.size)) (aI HX.out.2.2.2.2.2.1 HX.out.1.lt)) HX.out.2.2.2.2.2.2.2)))
 unfold rpC at hw4
 have HW4:=qh (aI hw4 hK)
 clear hw4 hK hb34 hb03 hb04 hRP hS3 hF3 HX H2
 unfold rpC
 go_upto_region 4 with fail
 rw [<- HW4.out.1,<- HW4.out.2]
 clear HW4
 obtain ⟨r0,r1,r2,r3,r4,r5,r6,r7,r8,r9⟩:=rp_cells HD4.out.zk
 obtain ⟨o0,o1,o2,o3,o4,o5,o6,o7,o8⟩:=ov_cells HD4.out.zo
 obtain ⟨⟨e1,e2⟩,_⟩:=HR4.out
 cases e1
 cases e2
 go_wp2_with (refine wpList_store_row rfl TReply (.tmp 4) (.tmp 28) rfl (N + 1) (rpC er nr (.slice none 0 0) (.slice none 0 0) nd) rfl rfl TReply rpZ HD4.out.zr (by kernel_rfl) (by kernel_rfl) (by kernel_rfl) ?_)
 refine bodyPost_ret (v:=.agg (rpC er nr (.slice none 0 0) (.slice none 0 0) nd)) (results_cell_row rfl _ _ (N + 1) TReply _ (0,0) _ rfl (setRow_heap _ _ _ _ TReply (0,0) HD4.out.zr) Tryz.underlying36 rfl (by kernel_rfl)) rfl ?_
 exact ⟨rfl,HD4.out.fin⟩
theorem vdo_look {w : World} {B0 B d sb mb n pn g v st l c : Nat} {S id : List UInt8} {lh wv iv hv : Value} {V : VltM} (h : VIn w B d sb mb n pn g S id v st l lh wv iv hv V) (ok : TrOk c V.σ.T) (hc : c <= 60000) (hl8 : V.σ.S.l.length <= 8) (hB0 : B0 <= B /\ B0 <= d /\ B0 <= sb /\ B0 <= mb)
  (k : Nat) (hk : 1 <= k /\ k <= 17) (p x : List UInt8) (fd at_ nn : Int) (til : Nat) (sp : Int) (da : Option Addr) (dl dc : Nat) (σ' : StM) (nr : Int) (nd : Nd) (ht0 : turnsN k = false) (hs0 : safeN k (writesS V.σ fd) = 0) (RP : Nat -> World -> Value -> Value -> Prop) (hRP : ∀ b W W' dv lv,w.heap.size + 2 <= b -> Chg (fun k => k < b) W W' -> RP b W dv lv -> RP b W' dv lv) (HDO : VDo w B V.σ σ' (ovCells k (strOf p) (strOf x) fd at_ nn til sp da dl dc) 0 nr nd RP) :
  Calls Tryz.prog 5 #[.pointer (some ⟨v,0,none⟩),.agg (ovCells k (strOf p) (strOf x) fd at_ nn til sp da dl dc)] w fun e w' => (∃ b dv lv,e = .returned (.agg (rpC 0 nr dv lv nd)) /\ w.heap.size <= b /\ RP b w' dv lv) /\ (∃ st',VIn w' B d sb mb n pn g S id v st' l lh wv iv hv ⟨σ',V.M,V.gen,V.seq,V.sgs,V.rcs⟩) /\ Fr B0 w w':=by
 obtain ⟨w1,hw1⟩:=qnm (w.alloc (.cells (ovCells k (strOf p) (strOf x) fd at_ nn til sp da dl dc) TOp))
 obtain ⟨w0,hw0⟩:=qnm (w1.alloc (.cells rpZ TReply))
 have hb1:=qba hw1
 have hb0':=qba hw0
 have hs1 : w1.heap.size = w.heap.size + 1:=by rw [hw1]; simp
 have hs0 : w0.heap.size = w.heap.size + 2:=by rw [hw0]; simp [hs1]
 have hb0 : Below w.heap.size w w0:=hb1.trans (hb0'.mono hb1.size)
 obtain ⟨N,hN⟩:=qnm w.heap.size
 have hz1 : w0.heap[N]? = some (.cells (ovCells k (strOf p) (strOf x) fd at_ nn til sp da dl dc) TOp (0,0)):=by rw [hN]; exact (hb0'.block _ (by omega)).trans (by rw [hw1]; exact heap_alloc_new w _)
 have hz0 : w0.heap[N + 1]? = some (.cells rpZ TReply (0,0)):=by rw [hN,<- hs1,hw0]; exact heap_alloc_new w1 _
 have h0:=h.below hb0
 obtain ⟨t,sn,fp,hst⟩:=h0.st
 have HCP:=qh (stcopy_any hst ok hc hl8 h0.size)
 have c1:=(vault_cells h0.cel).2.1
 obtain ⟨wr,hwr⟩:=qnm (writesS V.σ fd)
 have HX:=qh (aI h (aI hb0 (aI hz1 (aI hz0 (aI hB0 (aI hs0 (aI hN hwr)))))))
 have HW:=qh (aI hw0 (aI hw1 (aI hs1 hN)))
 obtain ⟨o0,o1,o2,o3,o4,o5,o6,o7,o8⟩:=ov_cells hz1
 unfold VDo at HDO
 have HNN:=qh hN
 clear h ok hc hl8 hB0 hw1 hw0 hb1 hb0' hs1 hs0 hb0 hz1 hz0 h0 hst hwr hN
 have HDO:=qh HDO
 go_enter Tryz.func5,Tryz.ntmps5
 go_upto_region 1 with fail
 have HWX:=qh HW.out
 unfold rpZ ovCells at HWX
 unfold ovCells
 rw [<- HWX.out.2.1,<- HWX.out.1,<- HWX.out.2.2.2]
 clear HWX HW
 go_wp2_with fail
 refine HCP.out.mono ?_
 rintro e w2 ⟨s2,t2,sn2,rfl,hS2,hb2⟩
 clear o0 o1 o2 o3 o4 o5 o6 o7 o8 c1 HCP
 have hzo2:=(hb2.block N (ltH HX.out.2.2.1)).trans HX.out.2.2.1
 obtain ⟨o0,o1,o2,o3,o4,o5,o6,o7,o8⟩:=ov_cells hzo2
 have hwr:=writes_any hS2 fd
 rw [<- HX.out.2.2.2.2.2.2.2] at hwr
 have HWR:=qh hwr
 have HDD:=qh (HDO.out w2 s2 t2 sn2 fp w0.heap.size (Nat.le_trans HX.out.1.size HX.out.2.1.size) HX.out.2.1.size hb2.size (HX.out.2.1.trans (hb2.mono HX.out.2.1.size)) hS2)
 unfold ovCells at HDD
 have H2:=qh hb2
 clear hS2 hb2 hzo2 hwr HDO
 go_wp2_with fail
 refine HWR.out.mono ?_
 rintro e w3 ⟨rfl,rfl⟩
 go_wp2_with fail
 refine HDD.out.mono ?_
 rintro e w3 ⟨⟨a1,n1,k1,a2,n2,k2,rfl,hRP⟩,⟨t3,sn3,fp3,hS3⟩,hF3⟩
 clear o0 o1 o2 o3 o4 o5 o6 o7 o8 HDD HWR
 obtain ⟨w4,hw4⟩:=qnm (w3.alloc (.cells (rpC 0 nr (.slice a1 n1 k1) (.slice a2 n2 k2) nd) TReply))
 obtain ⟨K,hK⟩:=qnm w3.heap.size
 have hb34:=qba hw4
 have hb03 : Below w0.heap.size w0 w3:=H2.out.trans hF3.1
 have hb04 : Below w0.heap.size w0 w4:=hb03.trans (hb34.mono hb03.size)
 have hd4 : (DoS w w4 B0 B d sb mb n pn g S id v st l lh wv iv hv V s2 σ' N K (ovCells k (strOf p) (strOf x) fd at_ nn til sp da dl dc) (rpC 0 nr (.slice a1 n1 k1) (.slice a2 n2 k2) nd)):=(by
  obtain ⟨h,hb0,hz1,hz0,hB0,hs0,hN,_⟩:=HX.out
  have hb4:=hb0.trans (hb04.mono hb0.size)
  exact ⟨h.below hb4,StAt.chgs ⟨_,_,_,hS3.frozen (Nat.le_trans h.size hb0.size)⟩ hb34,(hb04.block N (ltH hz1)).trans hz1,(hb04.block (N + 1) (ltH hz0)).trans hz0,by rw [hw4,hK]; exact heap_alloc_new w3 _,Nat.le_of_eq hN.symm,Fr.of hb4 (Nat.le_trans hB0.1 h.size),hB0,h.size⟩)
 have HD4:=qh hd4
 clear hd4
 have HR4:=qh (aI hRP (aI hb34 (aI (aI (HX.out.2.1.trans (hb04.mono HX.out.2.1.size)) (aI HX.out.2.2.2.2.2.1 HX.out.1.lt)) HX.out.2.2.2.2.2.2.2)))
 unfold rpC at hw4
 have HW4:=qh (aI hw4 hK)
 clear hw4 hK hb34 hb03 hb04 hRP hS3 hF3 HX H2
 unfold rpC
 go_upto_region 4 with fail
 rw [<- HW4.out.1,<- HW4.out.2]
 clear HW4
 obtain ⟨r0,r1,r2,r3,r4,r5,r6,r7,r8,r9⟩:=rp_cells HD4.out.zk
 obtain ⟨o0,o1,o2,o3,o4,o5,o6,o7,o8⟩:=ov_cells HD4.out.zo
 have ht:=turns_any k hk (strOf p) (strOf x) fd at_ nn til sp da dl dc w4
 rw [ht0] at ht
 unfold ovCells at ht
 have HT:=qh ht
 clear ht ht0
 go_wp2_with fail
 refine HT.out.mono ?_
 rintro e w5 ⟨rfl,hb5⟩
 clear HT
 clear r0 r1 r2 r3 r4 r5 r6 r7 r8 r9 o0 o1 o2 o3 o4 o5 o6 o7 o8
 have HD5:=qh (HD4.out.below hb5)
 have H5:=qh hb5
 clear hb5
 obtain ⟨c0,c1,c2,c3,c4,c5,c6,c7,c8,c9,c10,c11⟩:=vault_cells HD5.out.vin.cel
 have cv:=(vault_cells HD5.out.vin.cel).2.1
 have fv:=frz_of HD5.out.vin.cel 1
 obtain ⟨w6,hw6⟩:=qnm (w5.setCell ⟨v,1,none⟩ (.pointer (some ⟨s2,0,none⟩)))
 have hds:=HD5.out.setS
 rw [<- hw6] at hds
 have HD6:=qh hds
 have HWw6:=qh hw6
 clear hds hw6
 go_upto_region 13 with fail
 rw [<- HWw6.out]
 clear cv fv
 obtain ⟨r0,r1,r2,r3,r4,r5,r6,r7,r8,r9⟩:=rp_cells HD6.out.zk
 obtain ⟨o0,o1,o2,o3,o4,o5,o6,o7,o8⟩:=ov_cells HD6.out.zo
 have hsf:=safe_any k hk (strOf p) (strOf x) fd at_ nn til sp da dl dc wr w6
 rw [HR4.out.2.2.2,hs0] at hsf
 unfold ovCells at hsf
 have HSF:=qh hsf
 have HWR:=qh HR4.out.2.2.2
 rw [HR4.out.2.2.2]
 clear hsf
 go_wp2_with fail
 refine HSF.out.mono ?_
 rintro e w7 ⟨rfl,hbs⟩
 clear HSF
 clear r0 r1 r2 r3 r4 r5 r6 r7 r8 r9 o0 o1 o2 o3 o4 o5 o6 o7 o8
 have HD7:=qh (HD6.out.below hbs)
 have HBS:=qh hbs
 clear hbs
 have hch : (Chg (fun q => q < w0.heap.size) w3 (w7.setRow (N + 1) (rpC 0 nr (.slice a1 n1 k1) (.slice a2 n2 k2) nd))):=(by
  have h1 : Chg (fun q => q < w0.heap.size) w3 w5:=(Chg.of_below HR4.out.2.1 _).two (Chg.of_below H5.out _)
  have hlt:=HR4.out.2.2.1.2.2
  have hz0:=HR4.out.2.2.1.2.1
  have hvl : v < w0.heap.size:=by omega
  have hN : N + 1 < w0.heap.size:=by have:=HD4.out.ge; have:=HNN.out; omega
  have h2 : Chg (fun q => q < w0.heap.size) w3 w6:=by rw [HWw6.out]; exact h1.setCell (fun _ => hvl) _
  exact (h2.two (Chg.of_below HBS.out _)).two ⟨rfl,rfl,rfl,by simp [World.setRow],fun q _ hq => setRow_other w7 (N + 1) q _ (fun e => hq (by rw [e]; exact hN))⟩)
 have HCH:=qh hch
 clear hch
 obtain ⟨r0,r1,r2,r3,r4,r5,r6,r7,r8,r9⟩:=rp_cells HD7.out.zk
 obtain ⟨o0,o1,o2,o3,o4,o5,o6,o7,o8⟩:=ov_cells HD7.out.zo
 go_wp2_with (refine wpList_store_row rfl TReply (.tmp 4) (.tmp 101) rfl (N + 1) (rpC 0 nr (.slice a1 n1 k1) (.slice a2 n2 k2) nd) rfl rfl TReply rpZ HD7.out.zr (by kernel_rfl) (by kernel_rfl) (by kernel_rfl) ?_)
 refine bodyPost_ret (v:=.agg (rpC 0 nr (.slice a1 n1 k1) (.slice a2 n2 k2) nd)) (results_cell_row rfl _ _ (N + 1) TReply _ (0,0) _ rfl (setRow_heap _ _ _ _ TReply (0,0) HD7.out.zr) Tryz.underlying36 rfl (by kernel_rfl)) rfl ?_
 exact ⟨⟨w0.heap.size,.slice a1 n1 k1,.slice a2 n2 k2,rfl,by have:=HR4.out.2.2.1.2.1; omega,hRP _ _ _ _ _ (by have:=HR4.out.2.2.1.2.1; omega) HCH.out HR4.out.1⟩,⟨s2,HD7.out.fin.1⟩,HD7.out.fin.2⟩
theorem vdo_turn {w : World} {B0 B d sb mb n pn g v st l c : Nat} {S id : List UInt8} {lh wv iv hv : Value} {V : VltM} (h : VIn w B d sb mb n pn g S id v st l lh wv iv hv V) (ok : TrOk c V.σ.T) (hc : c <= 60000) (hl8 : V.σ.S.l.length <= 8) (hB0 : B0 <= B /\ B0 <= d /\ B0 <= sb /\ B0 <= mb)
  (k : Nat) (hk : 1 <= k /\ k <= 17) (p x : List UInt8) (fd at_ nn : Int) (til : Nat) (sp : Int) (da : Option Addr) (dl dc : Nat) (σ' : StM) (nr : Int) (nd : Nd) (ds E : List UInt8) (hdB : Bs w da dl dc ds) (ht0 : turnsN k = true) (hs0 : safeN k (writesS V.σ fd) = 0) (hen : opEnc ⟨k,p,x,fd,at_,nn,til,sp,ds⟩ = (E,0)) (hEl : E.length <= 900)
  (hp : isPlan (n : Int) (pn : Int) g) (hlog : LogOk g V.M) (hroom : (V.M.sealed : Int) < g) (hsum : waitB V.M.wait + 15 + E.length <= 942) (hnx : V.M.next + V.M.wait.length + 1 <= 1099511627776) (hwl : V.M.wait.length + 1 <= 1000) (HDO : VDo w B V.σ σ' (ovCells k (strOf p) (strOf x) fd at_ nn til sp da dl dc) 0 nr nd RPnil) :
  Calls Tryz.prog 5 #[.pointer (some ⟨v,0,none⟩),.agg (ovCells k (strOf p) (strOf x) fd at_ nn til sp da dl dc)] w fun e w' => e = .returned (.agg (rpC 0 nr (.slice none 0 0) (.slice none 0 0) nd)) /\ (∃ st' wv' r',r'.core = (1,V.M.next + V.M.wait.length,E) /\ LogOk g ⟨V.M.sealed,V.M.head,V.M.next,V.M.wait ++ [r']⟩ /\ VIn w' B d sb mb n pn g S id v st' l lh wv' iv hv ⟨σ',⟨V.M.sealed,V.M.head,V.M.next,V.M.wait ++ [r']⟩,V.gen,V.seq,V.sgs,V.rcs⟩) /\ Fr B0 w w':=by
 have HY:=qh (aI hdB (aI hen (aI hEl (aI hp (aI hlog (aI hroom (aI hsum (aI hnx (aI hwl trivial)))))))))
 clear hdB hen hEl hp hlog hroom hsum hnx hwl
 obtain ⟨w1,hw1⟩:=qnm (w.alloc (.cells (ovCells k (strOf p) (strOf x) fd at_ nn til sp da dl dc) TOp))
 obtain ⟨w0,hw0⟩:=qnm (w1.alloc (.cells rpZ TReply))
 have hb1:=qba hw1
 have hb0':=qba hw0
 have hs1 : w1.heap.size = w.heap.size + 1:=by rw [hw1]; simp
 have hs0 : w0.heap.size = w.heap.size + 2:=by rw [hw0]; simp [hs1]
 have hb0 : Below w.heap.size w w0:=hb1.trans (hb0'.mono hb1.size)
 obtain ⟨N,hN⟩:=qnm w.heap.size
 have hz1 : w0.heap[N]? = some (.cells (ovCells k (strOf p) (strOf x) fd at_ nn til sp da dl dc) TOp (0,0)):=by rw [hN]; exact (hb0'.block _ (by omega)).trans (by rw [hw1]; exact heap_alloc_new w _)
 have hz0 : w0.heap[N + 1]? = some (.cells rpZ TReply (0,0)):=by rw [hN,<- hs1,hw0]; exact heap_alloc_new w1 _
 have h0:=h.below hb0
 obtain ⟨t,sn,fp,hst⟩:=h0.st
 have HCP:=qh (stcopy_any hst ok hc hl8 h0.size)
 have c1:=(vault_cells h0.cel).2.1
 obtain ⟨wr,hwr⟩:=qnm (writesS V.σ fd)
 have HX:=qh (aI h (aI hb0 (aI hz1 (aI hz0 (aI hB0 (aI hs0 (aI hN hwr)))))))
 have HW:=qh (aI hw0 (aI hw1 (aI hs1 hN)))
 obtain ⟨o0,o1,o2,o3,o4,o5,o6,o7,o8⟩:=ov_cells hz1
 unfold VDo at HDO
 have HNN:=qh hN
 clear h ok hc hl8 hB0 hw1 hw0 hb1 hb0' hs1 hs0 hb0 hz1 hz0 h0 hst hwr hN
 have HDO:=qh HDO
 go_enter Tryz.func5,Tryz.ntmps5
 go_upto_region 1 with fail
 have HWX:=qh HW.out
 unfold rpZ ovCells at HWX
 unfold ovCells
 rw [<- HWX.out.2.1,<- HWX.out.1,<- HWX.out.2.2.2]
 clear HWX HW
 go_wp2_with fail
 refine HCP.out.mono ?_
 rintro e w2 ⟨s2,t2,sn2,rfl,hS2,hb2⟩
 clear o0 o1 o2 o3 o4 o5 o6 o7 o8 c1 HCP
 have hzo2:=(hb2.block N (ltH HX.out.2.2.1)).trans HX.out.2.2.1
 obtain ⟨o0,o1,o2,o3,o4,o5,o6,o7,o8⟩:=ov_cells hzo2
 have hwr:=writes_any hS2 fd
 rw [<- HX.out.2.2.2.2.2.2.2] at hwr
 have HWR:=qh hwr
 have HDD:=qh (HDO.out w2 s2 t2 sn2 fp w0.heap.size (Nat.le_trans HX.out.1.size HX.out.2.1.size) HX.out.2.1.size hb2.size (HX.out.2.1.trans (hb2.mono HX.out.2.1.size)) hS2)
 unfold ovCells at HDD
 have H2:=qh hb2
 clear hS2 hb2 hzo2 hwr HDO
 go_wp2_with fail
 refine HWR.out.mono ?_
 rintro e w3 ⟨rfl,rfl⟩
 go_wp2_with fail
 refine HDD.out.mono ?_
 rintro e w3 ⟨⟨a1,n1,k1,a2,n2,k2,rfl,hRP⟩,⟨t3,sn3,fp3,hS3⟩,hF3⟩
 clear o0 o1 o2 o3 o4 o5 o6 o7 o8 HDD HWR
 obtain ⟨w4,hw4⟩:=qnm (w3.alloc (.cells (rpC 0 nr (.slice a1 n1 k1) (.slice a2 n2 k2) nd) TReply))
 obtain ⟨K,hK⟩:=qnm w3.heap.size
 have hb34:=qba hw4
 have hb03 : Below w0.heap.size w0 w3:=H2.out.trans hF3.1
 have hb04 : Below w0.heap.size w0 w4:=hb03.trans (hb34.mono hb03.size)
 have hd4 : (DoS w w4 B0 B d sb mb n pn g S id v st l lh wv iv hv V s2 σ' N K (ovCells k (strOf p) (strOf x) fd at_ nn til sp da dl dc) (rpC 0 nr (.slice a1 n1 k1) (.slice a2 n2 k2) nd)):=(by
  obtain ⟨h,hb0,hz1,hz0,hB0,hs0,hN,_⟩:=HX.out
  have hb4:=hb0.trans (hb04.mono hb0.size)
  exact ⟨h.below hb4,StAt.chgs ⟨_,_,_,hS3.frozen (Nat.le_trans h.size hb0.size)⟩ hb34,(hb04.block N (ltH hz1)).trans hz1,(hb04.block (N + 1) (ltH hz0)).trans hz0,by rw [hw4,hK]; exact heap_alloc_new w3 _,Nat.le_of_eq hN.symm,Fr.of hb4 (Nat.le_trans hB0.1 h.size),hB0,h.size⟩)
 have HD4:=qh hd4
 clear hd4
 have HR4:=qh (aI hRP (aI hb34 (aI (aI (HX.out.2.1.trans (hb04.mono HX.out.2.1.size)) (aI HX.out.2.2.2.2.2.1 HX.out.1.lt)) HX.out.2.2.2.2.2.2.2)))
 unfold rpC at hw4
 have HW4:=qh (aI hw4 hK)
 clear hw4 hK hb34 hb03 hb04 hRP hS3 hF3 HX H2
 unfold rpC
 go_upto_region 4 with fail
 rw [<- HW4.out.1,<- HW4.out.2]
 clear HW4
 obtain ⟨r0,r1,r2,r3,r4,r5,r6,r7,r8,r9⟩:=rp_cells HD4.out.zk
 obtain ⟨o0,o1,o2,o3,o4,o5,o6,o7,o8⟩:=ov_cells HD4.out.zo
 obtain ⟨e1,e2⟩:=HR4.out.1
 cases e1
 cases e2
 have ht:=turns_any k hk (strOf p) (strOf x) fd at_ nn til sp da dl dc w4
 rw [ht0] at ht
 unfold ovCells at ht
 have HT:=qh ht
 clear ht ht0
 go_wp2_with fail
 refine HT.out.mono ?_
 rintro e w5 ⟨rfl,hb5⟩
 clear HT
 clear r0 r1 r2 r3 r4 r5 r6 r7 r8 r9 o0 o1 o2 o3 o4 o5 o6 o7 o8
 have HD5:=qh (HD4.out.below hb5)
 have H5:=qh hb5
 clear hb5
 obtain ⟨c0,c1,c2,c3,c4,c5,c6,c7,c8,c9,c10,c11⟩:=vault_cells HD5.out.vin.cel
 obtain ⟨r0,r1,r2,r3,r4,r5,r6,r7,r8,r9⟩:=rp_cells HD5.out.zk
 obtain ⟨o0,o1,o2,o3,o4,o5,o6,o7,o8⟩:=ov_cells HD5.out.zo
 have hec:=openc_any k p x fd at_ nn til sp da dl dc ds w5 (HY.out.1.below (HR4.out.2.2.1.1.trans (H5.out.mono HR4.out.2.2.1.1.size)))
 rw [HY.out.2.1] at hec
 unfold ovCells at hec
 have HEC:=qh hec
 clear hec
 go_wp2_with fail
 refine HEC.out.mono ?_
 rintro e w6 ⟨bv,rfl,hO,hb6⟩
 obtain ⟨m,hm⟩:=qnm E.length
 obtain ⟨ba,bc,rfl,hBs⟩:=hO.bsn (n:=m) hm.symm
 clear HEC
 clear r0 r1 r2 r3 r4 r5 r6 r7 r8 r9 o0 o1 o2 o3 o4 o5 o6 o7 o8
 clear c0 c1 c2 c3 c4 c5 c6 c7 c8 c9 c10 c11
 obtain ⟨q,hq⟩:=qnm (V.M.next + V.M.wait.length)
 have HQ:=qh (aI hq hm)
 obtain ⟨wd,hwd⟩:=qnm w6.drew
 have hbd : Below w6.heap.size w6 wd:=by rw [hwd]; exact (Below.refl _ _).drew
 have HDd:=qh ((HD5.out.below hb6).below hbd)
 have HBd:=qh (hBs.below hbd)
 have hnxt:=lnext_any HDd.out.vin.log (by have:=HY.out.2.2.2.2.2.2.2.1; omega)
 rw [<- hq] at hnxt
 have HNX:=qh hnxt
 have hcd:=(vault_cells (HD5.out.below hb6).vin.cel).2.2.1
 have HCD:=qh hcd
 clear hO hb6 hBs hnxt hq hm hbd
 go_upto_region 9 with fail
 refine heldB_start (fun i => [0,1,2,3,4,5,6,7,8,9,10,11].contains i) (fun w' => w'.cell? ⟨v,2,none⟩ = some (.pointer (some ⟨l,0,none⟩))) (by kernel_rfl) ?_ (fun hHeld => ?_)
 ·exact HCD.out
 rw [<- hwd] at hHeld ⊢
 clear hwd hcd
 refine qtk 0 38 ?_
 simp only [qz0,qz1]
 refine qtk 1 39 ?_
 simp only [qz0,qz1]
 refine qtk 2 40 ?_
 simp only [qz0,qz1]
 refine qtk 3 41 ?_
 simp only [qz0,qz1]
 refine qtk 4 42 ?_
 simp only [qz0,qz1]
 refine qtk 5 43 ?_
 simp only [qz0,qz1]
 refine qtk 6 44 ?_
 simp only [qz0,qz1]
 refine qtk 7 45 ?_
 simp only [qz0,qz1]
 refine qtk 9 47 ?_
 simp only [qz0,qz1]
 refine qone 8 fun K hK => ?_
 go_simp
 refine HNX.out.mono ?_
 rintro e w7 ⟨rfl,hb7⟩
 have HD7:=qh (HDd.out.below hb7)
 have HB7:=qh (HBd.out.below hb7)
 have hHeld:=(vault_cells HD7.out.vin.cel).2.2.1
 clear hb7
 go_wp2_with fail
 refine hK.out _ _ (fun _ => hHeld) ?_
 clear hK K
 refine qtk 10 48 ?_
 simp only [qz0,qz1]
 refine qone 11 fun K hK => ?_
 have hap:=append_ok HD7.out.vin.log HD7.out.vin.size (by have:=HY.out.2.2.2.2.1; exact ⟨this.g1,this.g2⟩) HY.out.2.2.2.2.2.1 1 q m bc ba E HQ.out.1 (by have:=HY.out.2.2.2.2.2.2.2.1; omega) ⟨by have:=HY.out.2.2.2.2.2.2.2.1; have:=HQ.out.1; omega,by have:=HY.out.2.2.1; have:=HQ.out.2; omega,.inl rfl⟩ HB7.out (fits_app HY.out.2.2.2.2.1 _ ⟨by have:=HY.out.2.2.2.2.2.2.2.1; have:=HQ.out.1; show q <= _; omega,by have:=HY.out.2.2.1; have:=HQ.out.2; show m <= _; omega,.inl rfl⟩ (by have:=HY.out.2.2.2.2.2.2.1; have:=HQ.out.2; show waitB V.M.wait + 15 + m <= _; omega)) (by have:=HY.out.2.2.2.2.2.2.2.2.1; omega)
 have HAP:=qh hap
 clear hap
 go_simp
 refine HAP.out.mono ?_
 rintro e w8 ⟨rfl,⟨wv',r',hrc,hL8⟩,hc8⟩
 have HD8:=qh (HD7.out.logged hc8 hL8)
 have HRC:=qh hrc
 clear hrc hL8 hc8 HAP
 have hHeld:=(vault_cells HD8.out.vin.cel).2.2.1
 go_wp2_with fail
 refine hK.out _ _ (fun _ => hHeld) ?_
 clear hK K
 refine qfr 12 9 ?_
 simp only [qz0,qz1]
 refine qdon ?_
 clear hHeld
 have HLO:=qh (show LogOk g ⟨V.M.sealed,V.M.head,V.M.next,V.M.wait ++ [r']⟩ from HY.out.2.2.2.2.1.app (by rw [HRC.out,<- HQ.out.1]; rfl) (HD8.out.vin.log.wt.2 r' (List.mem_append_right _ (List.mem_singleton.2 rfl))).2.1 ⟨by have:=HY.out.2.2.2.2.2.2.2.1; omega,HY.out.2.2.1,.inl rfl⟩ HY.out.2.2.2.2.2.2.1 HY.out.2.2.2.2.2.2.2.1 HY.out.2.2.2.2.2.2.2.2.1)
 have HRQ:=qh (show r'.core = (1,V.M.next + V.M.wait.length,E) from by rw [HRC.out,<- HQ.out.1]; rfl)
 have cv:=(vault_cells HD8.out.vin.cel).2.1
 have fv:=frz_of HD8.out.vin.cel 1
 obtain ⟨w9,hw9⟩:=qnm (w8.setCell ⟨v,1,none⟩ (.pointer (some ⟨s2,0,none⟩)))
 have hds:=HD8.out.setS
 rw [<- hw9] at hds
 have HD9:=qh hds
 have HWw9:=qh hw9
 clear hds hw9
 go_upto_region 13 with fail
 rw [<- HWw9.out]
 clear cv fv
 obtain ⟨r0,r1,r2,r3,r4,r5,r6,r7,r8,r9⟩:=rp_cells HD9.out.zk
 obtain ⟨o0,o1,o2,o3,o4,o5,o6,o7,o8⟩:=ov_cells HD9.out.zo
 have hsf:=safe_any k hk (strOf p) (strOf x) fd at_ nn til sp da dl dc wr w9
 rw [HR4.out.2.2.2,hs0] at hsf
 unfold ovCells at hsf
 have HSF:=qh hsf
 have HWR:=qh HR4.out.2.2.2
 rw [HR4.out.2.2.2]
 clear hsf
 go_wp2_with fail
 refine HSF.out.mono ?_
 rintro e w10 ⟨rfl,hbs⟩
 clear HSF
 clear r0 r1 r2 r3 r4 r5 r6 r7 r8 r9 o0 o1 o2 o3 o4 o5 o6 o7 o8
 have HD10:=qh (HD9.out.below hbs)
 have HBS:=qh hbs
 clear hbs
 obtain ⟨r0,r1,r2,r3,r4,r5,r6,r7,r8,r9⟩:=rp_cells HD10.out.zk
 obtain ⟨o0,o1,o2,o3,o4,o5,o6,o7,o8⟩:=ov_cells HD10.out.zo
 go_wp2_with (refine wpList_store_row rfl TReply (.tmp 4) (.tmp 101) rfl (N + 1) (rpC 0 nr (.slice none 0 0) (.slice none 0 0) nd) rfl rfl TReply rpZ HD10.out.zr (by kernel_rfl) (by kernel_rfl) (by kernel_rfl) ?_)
 refine bodyPost_ret (v:=.agg (rpC 0 nr (.slice none 0 0) (.slice none 0 0) nd)) (results_cell_row rfl _ _ (N + 1) TReply _ (0,0) _ rfl (setRow_heap _ _ _ _ TReply (0,0) HD10.out.zr) Tryz.underlying36 rfl (by kernel_rfl)) rfl ?_
 exact ⟨rfl,⟨s2,wv',r',HRQ.out,HLO.out,HD10.out.fin.1⟩,HD10.out.fin.2⟩
theorem vdo_shut {w : World} {B0 B d sb mb n pn g v st l c : Nat} {S id : List UInt8} {lh wv iv hv : Value} {V : VltM} (h : VIn w B d sb mb n pn g S id v st l lh wv iv hv V) (ok : TrOk c V.σ.T) (hc : c <= 60000) (hl8 : V.σ.S.l.length <= 8) (hB0 : B0 <= B /\ B0 <= d /\ B0 <= sb /\ B0 <= mb)
  (k : Nat) (hk : 1 <= k /\ k <= 17) (p x : List UInt8) (fd at_ nn : Int) (til : Nat) (sp : Int) (da : Option Addr) (dl dc : Nat) (σ' : StM) (nr : Int) (nd : Nd) (ds E : List UInt8) (hdB : Bs w da dl dc ds) (ht0 : turnsN k = true) (hs1 : safeN k (writesS V.σ fd) = 1) (hen : opEnc ⟨k,p,x,fd,at_,nn,til,sp,ds⟩ = (E,0)) (hEl : E.length <= 900)
  (hp : isPlan (n : Int) (pn : Int) g) (hlog : LogOk g V.M) (hroom : (V.M.sealed : Int) < g) (hsum : waitB V.M.wait + 15 + E.length <= 942) (hnx : V.M.next + V.M.wait.length + 1 <= 1099511627776) (hwl : V.M.wait.length + 1 <= 1000) (hfn : 1 + 2 * pn + V.M.sealed * 8 + 8 <= n) (HDO : VDo w B V.σ σ' (ovCells k (strOf p) (strOf x) fd at_ nn til sp da dl dc) 0 nr nd RPnil) :
  Calls Tryz.prog 5 #[.pointer (some ⟨v,0,none⟩),.agg (ovCells k (strOf p) (strOf x) fd at_ nn til sp da dl dc)] w fun e w' => e = .returned (.agg (rpC 0 nr (.slice none 0 0) (.slice none 0 0) nd)) /\ (∃ st' lh' S' r',r'.core = (1,V.M.next + V.M.wait.length,E) /\ LogOk g ⟨V.M.sealed,V.M.head,V.M.next,V.M.wait ++ [r']⟩ /\ r'.ys.length = r'.m /\ VIn w' B d sb mb n pn g S' id v st' l lh' (.slice none 0 0) iv hv ⟨σ',sealM ⟨V.M.sealed,V.M.head,V.M.next,V.M.wait ++ [r']⟩,V.gen,V.seq,V.sgs,V.rcs⟩ /\ ∀ j,j < n -> secOf S' j = sect S (layM nM (1 + 2 * pn + V.M.sealed * 8) (segBytes V.M.sealed V.M.next V.M.head (V.M.wait ++ [r'])) 8) j) /\ Fr B0 w w':=by
 have HY:=qh (aI hdB (aI hen (aI hEl (aI hp (aI hlog (aI hroom (aI hsum (aI hnx (aI hwl hfn)))))))))
 clear hdB hen hEl hp hlog hroom hsum hnx hwl hfn
 obtain ⟨w1,hw1⟩:=qnm (w.alloc (.cells (ovCells k (strOf p) (strOf x) fd at_ nn til sp da dl dc) TOp))
 obtain ⟨w0,hw0⟩:=qnm (w1.alloc (.cells rpZ TReply))
 have hb1:=qba hw1
 have hb0':=qba hw0
 have hs1 : w1.heap.size = w.heap.size + 1:=by rw [hw1]; simp
 have hs0 : w0.heap.size = w.heap.size + 2:=by rw [hw0]; simp [hs1]
 have hb0 : Below w.heap.size w w0:=hb1.trans (hb0'.mono hb1.size)
 obtain ⟨N,hN⟩:=qnm w.heap.size
 have hz1 : w0.heap[N]? = some (.cells (ovCells k (strOf p) (strOf x) fd at_ nn til sp da dl dc) TOp (0,0)):=by rw [hN]; exact (hb0'.block _ (by omega)).trans (by rw [hw1]; exact heap_alloc_new w _)
 have hz0 : w0.heap[N + 1]? = some (.cells rpZ TReply (0,0)):=by rw [hN,<- hs1,hw0]; exact heap_alloc_new w1 _
 have h0:=h.below hb0
 obtain ⟨t,sn,fp,hst⟩:=h0.st
 have HCP:=qh (stcopy_any hst ok hc hl8 h0.size)
 have c1:=(vault_cells h0.cel).2.1
 obtain ⟨wr,hwr⟩:=qnm (writesS V.σ fd)
 have HX:=qh (aI h (aI hb0 (aI hz1 (aI hz0 (aI hB0 (aI hs0 (aI hN hwr)))))))
 have HW:=qh (aI hw0 (aI hw1 (aI hs1 hN)))
 obtain ⟨o0,o1,o2,o3,o4,o5,o6,o7,o8⟩:=ov_cells hz1
 unfold VDo at HDO
 have HNN:=qh hN
 clear h ok hc hl8 hB0 hw1 hw0 hb1 hb0' hs1 hs0 hb0 hz1 hz0 h0 hst hwr hN
 have HDO:=qh HDO
 go_enter Tryz.func5,Tryz.ntmps5
 go_upto_region 1 with fail
 have HWX:=qh HW.out
 unfold rpZ ovCells at HWX
 unfold ovCells
 rw [<- HWX.out.2.1,<- HWX.out.1,<- HWX.out.2.2.2]
 clear HWX HW
 go_wp2_with fail
 refine HCP.out.mono ?_
 rintro e w2 ⟨s2,t2,sn2,rfl,hS2,hb2⟩
 clear o0 o1 o2 o3 o4 o5 o6 o7 o8 c1 HCP
 have hzo2:=(hb2.block N (ltH HX.out.2.2.1)).trans HX.out.2.2.1
 obtain ⟨o0,o1,o2,o3,o4,o5,o6,o7,o8⟩:=ov_cells hzo2
 have hwr:=writes_any hS2 fd
 rw [<- HX.out.2.2.2.2.2.2.2] at hwr
 have HWR:=qh hwr
 have HDD:=qh (HDO.out w2 s2 t2 sn2 fp w0.heap.size (Nat.le_trans HX.out.1.size HX.out.2.1.size) HX.out.2.1.size hb2.size (HX.out.2.1.trans (hb2.mono HX.out.2.1.size)) hS2)
 unfold ovCells at HDD
 have H2:=qh hb2
 clear hS2 hb2 hzo2 hwr HDO
 go_wp2_with fail
 refine HWR.out.mono ?_
 rintro e w3 ⟨rfl,rfl⟩
 go_wp2_with fail
 refine HDD.out.mono ?_
 rintro e w3 ⟨⟨a1,n1,k1,a2,n2,k2,rfl,hRP⟩,⟨t3,sn3,fp3,hS3⟩,hF3⟩
 clear o0 o1 o2 o3 o4 o5 o6 o7 o8 HDD HWR
 obtain ⟨w4,hw4⟩:=qnm (w3.alloc (.cells (rpC 0 nr (.slice a1 n1 k1) (.slice a2 n2 k2) nd) TReply))
 obtain ⟨K,hK⟩:=qnm w3.heap.size
 have hb34:=qba hw4
 have hb03 : Below w0.heap.size w0 w3:=H2.out.trans hF3.1
 have hb04 : Below w0.heap.size w0 w4:=hb03.trans (hb34.mono hb03.size)
 have hd4 : (DoS w w4 B0 B d sb mb n pn g S id v st l lh wv iv hv V s2 σ' N K (ovCells k (strOf p) (strOf x) fd at_ nn til sp da dl dc) (rpC 0 nr (.slice a1 n1 k1) (.slice a2 n2 k2) nd)):=(by
  obtain ⟨h,hb0,hz1,hz0,hB0,hs0,hN,_⟩:=HX.out
  have hb4:=hb0.trans (hb04.mono hb0.size)
  exact ⟨h.below hb4,StAt.chgs ⟨_,_,_,hS3.frozen (Nat.le_trans h.size hb0.size)⟩ hb34,(hb04.block N (ltH hz1)).trans hz1,(hb04.block (N + 1) (ltH hz0)).trans hz0,by rw [hw4,hK]; exact heap_alloc_new w3 _,Nat.le_of_eq hN.symm,Fr.of hb4 (Nat.le_trans hB0.1 h.size),hB0,h.size⟩)
 have HD4:=qh hd4
 clear hd4
 have HR4:=qh (aI hRP (aI hb34 (aI (aI (HX.out.2.1.trans (hb04.mono HX.out.2.1.size)) (aI HX.out.2.2.2.2.2.1 HX.out.1.lt)) HX.out.2.2.2.2.2.2.2)))
 unfold rpC at hw4
 have HW4:=qh (aI hw4 hK)
 clear hw4 hK hb34 hb03 hb04 hRP hS3 hF3 HX H2
 unfold rpC
 go_upto_region 4 with fail
 rw [<- HW4.out.1,<- HW4.out.2]
 clear HW4
 obtain ⟨r0,r1,r2,r3,r4,r5,r6,r7,r8,r9⟩:=rp_cells HD4.out.zk
 obtain ⟨o0,o1,o2,o3,o4,o5,o6,o7,o8⟩:=ov_cells HD4.out.zo
 obtain ⟨e1,e2⟩:=HR4.out.1
 cases e1
 cases e2
 have ht:=turns_any k hk (strOf p) (strOf x) fd at_ nn til sp da dl dc w4
 rw [ht0] at ht
 unfold ovCells at ht
 have HT:=qh ht
 clear ht ht0
 go_wp2_with fail
 refine HT.out.mono ?_
 rintro e w5 ⟨rfl,hb5⟩
 clear HT
 clear r0 r1 r2 r3 r4 r5 r6 r7 r8 r9 o0 o1 o2 o3 o4 o5 o6 o7 o8
 have HD5:=qh (HD4.out.below hb5)
 have H5:=qh hb5
 clear hb5
 obtain ⟨c0,c1,c2,c3,c4,c5,c6,c7,c8,c9,c10,c11⟩:=vault_cells HD5.out.vin.cel
 obtain ⟨r0,r1,r2,r3,r4,r5,r6,r7,r8,r9⟩:=rp_cells HD5.out.zk
 obtain ⟨o0,o1,o2,o3,o4,o5,o6,o7,o8⟩:=ov_cells HD5.out.zo
 have hec:=openc_any k p x fd at_ nn til sp da dl dc ds w5 (HY.out.1.below (HR4.out.2.2.1.1.trans (H5.out.mono HR4.out.2.2.1.1.size)))
 rw [HY.out.2.1] at hec
 unfold ovCells at hec
 have HEC:=qh hec
 clear hec
 go_wp2_with fail
 refine HEC.out.mono ?_
 rintro e w6 ⟨bv,rfl,hO,hb6⟩
 obtain ⟨m,hm⟩:=qnm E.length
 obtain ⟨ba,bc,rfl,hBs⟩:=hO.bsn (n:=m) hm.symm
 clear HEC
 clear r0 r1 r2 r3 r4 r5 r6 r7 r8 r9 o0 o1 o2 o3 o4 o5 o6 o7 o8
 clear c0 c1 c2 c3 c4 c5 c6 c7 c8 c9 c10 c11
 obtain ⟨q,hq⟩:=qnm (V.M.next + V.M.wait.length)
 have HQ:=qh (aI hq hm)
 obtain ⟨wd,hwd⟩:=qnm w6.drew
 have hbd : Below w6.heap.size w6 wd:=by rw [hwd]; exact (Below.refl _ _).drew
 have HDd:=qh ((HD5.out.below hb6).below hbd)
 have HBd:=qh (hBs.below hbd)
 have hnxt:=lnext_any HDd.out.vin.log (by have:=HY.out.2.2.2.2.2.2.2.1; omega)
 rw [<- hq] at hnxt
 have HNX:=qh hnxt
 have hcd:=(vault_cells (HD5.out.below hb6).vin.cel).2.2.1
 have HCD:=qh hcd
 clear hO hb6 hBs hnxt hq hm hbd
 go_upto_region 9 with fail
 refine heldB_start (fun i => [0,1,2,3,4,5,6,7,8,9,10,11].contains i) (fun w' => w'.cell? ⟨v,2,none⟩ = some (.pointer (some ⟨l,0,none⟩))) (by kernel_rfl) ?_ (fun hHeld => ?_)
 ·exact HCD.out
 rw [<- hwd] at hHeld ⊢
 clear hwd hcd
 refine qtk 0 38 ?_
 simp only [qz0,qz1]
 refine qtk 1 39 ?_
 simp only [qz0,qz1]
 refine qtk 2 40 ?_
 simp only [qz0,qz1]
 refine qtk 3 41 ?_
 simp only [qz0,qz1]
 refine qtk 4 42 ?_
 simp only [qz0,qz1]
 refine qtk 5 43 ?_
 simp only [qz0,qz1]
 refine qtk 6 44 ?_
 simp only [qz0,qz1]
 refine qtk 7 45 ?_
 simp only [qz0,qz1]
 refine qtk 9 47 ?_
 simp only [qz0,qz1]
 refine qone 8 fun K hK => ?_
 go_simp
 refine HNX.out.mono ?_
 rintro e w7 ⟨rfl,hb7⟩
 have HD7:=qh (HDd.out.below hb7)
 have HB7:=qh (HBd.out.below hb7)
 have hHeld:=(vault_cells HD7.out.vin.cel).2.2.1
 clear hb7
 go_wp2_with fail
 refine hK.out _ _ (fun _ => hHeld) ?_
 clear hK K
 refine qtk 10 48 ?_
 simp only [qz0,qz1]
 refine qone 11 fun K hK => ?_
 have hap:=append_ok HD7.out.vin.log HD7.out.vin.size (by have:=HY.out.2.2.2.2.1; exact ⟨this.g1,this.g2⟩) HY.out.2.2.2.2.2.1 1 q m bc ba E HQ.out.1 (by have:=HY.out.2.2.2.2.2.2.2.1; omega) ⟨by have:=HY.out.2.2.2.2.2.2.2.1; have:=HQ.out.1; omega,by have:=HY.out.2.2.1; have:=HQ.out.2; omega,.inl rfl⟩ HB7.out (fits_app HY.out.2.2.2.2.1 _ ⟨by have:=HY.out.2.2.2.2.2.2.2.1; have:=HQ.out.1; show q <= _; omega,by have:=HY.out.2.2.1; have:=HQ.out.2; show m <= _; omega,.inl rfl⟩ (by have:=HY.out.2.2.2.2.2.2.1; have:=HQ.out.2; show waitB V.M.wait + 15 + m <= _; omega)) (by have:=HY.out.2.2.2.2.2.2.2.2.1; omega)
 have HAP:=qh hap
 clear hap
 go_simp
 refine HAP.out.mono ?_
 rintro e w8 ⟨rfl,⟨wv',r',hrc,hL8⟩,hc8⟩
 have HD8:=qh (HD7.out.logged hc8 hL8)
 have HRC:=qh hrc
 clear hrc hL8 hc8 HAP
 have hHeld:=(vault_cells HD8.out.vin.cel).2.2.1
 go_wp2_with fail
 refine hK.out _ _ (fun _ => hHeld) ?_
 clear hK K
 refine qfr 12 9 ?_
 simp only [qz0,qz1]
 refine qdon ?_
 clear hHeld
 have HLO:=qh (show LogOk g ⟨V.M.sealed,V.M.head,V.M.next,V.M.wait ++ [r']⟩ from HY.out.2.2.2.2.1.app (by rw [HRC.out,<- HQ.out.1]; rfl) (HD8.out.vin.log.wt.2 r' (List.mem_append_right _ (List.mem_singleton.2 rfl))).2.1 ⟨by have:=HY.out.2.2.2.2.2.2.2.1; omega,HY.out.2.2.1,.inl rfl⟩ HY.out.2.2.2.2.2.2.1 HY.out.2.2.2.2.2.2.2.1 HY.out.2.2.2.2.2.2.2.2.1)
 have HRQ:=qh (show r'.core = (1,V.M.next + V.M.wait.length,E) from by rw [HRC.out,<- HQ.out.1]; rfl)
 have cv:=(vault_cells HD8.out.vin.cel).2.1
 have fv:=frz_of HD8.out.vin.cel 1
 obtain ⟨w9,hw9⟩:=qnm (w8.setCell ⟨v,1,none⟩ (.pointer (some ⟨s2,0,none⟩)))
 have hds:=HD8.out.setS
 rw [<- hw9] at hds
 have HD9:=qh hds
 have HWw9:=qh hw9
 clear hds hw9
 go_upto_region 13 with fail
 rw [<- HWw9.out]
 clear cv fv
 obtain ⟨r0,r1,r2,r3,r4,r5,r6,r7,r8,r9⟩:=rp_cells HD9.out.zk
 obtain ⟨o0,o1,o2,o3,o4,o5,o6,o7,o8⟩:=ov_cells HD9.out.zo
 have hsf:=safe_any k hk (strOf p) (strOf x) fd at_ nn til sp da dl dc wr w9
 rw [HR4.out.2.2.2,hs1] at hsf
 unfold ovCells at hsf
 have HSF:=qh hsf
 have HWR:=qh HR4.out.2.2.2
 rw [HR4.out.2.2.2]
 clear hsf
 go_wp2_with fail
 refine HSF.out.mono ?_
 rintro e w10 ⟨rfl,hbs⟩
 clear HSF
 clear r0 r1 r2 r3 r4 r5 r6 r7 r8 r9 o0 o1 o2 o3 o4 o5 o6 o7 o8
 have HD10:=qh (HD9.out.below hbs)
 have HBS:=qh hbs
 clear hbs
 have hse:=seal_ok HD10.out.vin.log HD10.out.vin.dk HD10.out.vin.dB HD10.out.vin.sB HD10.out.vin.mB HD10.out.vin.lB HD10.out.vin.size HY.out.2.2.2.1 HLO.out HY.out.2.2.2.2.2.1 (by simp) (1 + 2 * pn + V.M.sealed * 8) (by push_cast; rfl) HY.out.2.2.2.2.2.2.2.2.2
 have HSE:=qh hse
 clear hse
 have cl:=(vault_cells HD10.out.vin.cel).2.2.1
 go_wp2_with fail
 refine HSE.out.mono ?_
 rintro e w11 ⟨rfl,⟨hv',hL11⟩,⟨S',hD11,hS'⟩,hc11⟩
 have HD11:=qh (HD10.out.shut hc11 hL11 hD11)
 have HS':=qh hS'
 clear HSE cl hL11 hD11 hS' hc11
 obtain ⟨r0,r1,r2,r3,r4,r5,r6,r7,r8,r9⟩:=rp_cells HD11.out.zk
 obtain ⟨o0,o1,o2,o3,o4,o5,o6,o7,o8⟩:=ov_cells HD11.out.zo
 go_wp2_with (refine wpList_store_row rfl TReply (.tmp 4) (.tmp 101) rfl (N + 1) (rpC 0 nr (.slice none 0 0) (.slice none 0 0) nd) rfl rfl TReply rpZ HD11.out.zr (by kernel_rfl) (by kernel_rfl) (by kernel_rfl) ?_)
 refine bodyPost_ret (v:=.agg (rpC 0 nr (.slice none 0 0) (.slice none 0 0) nd)) (results_cell_row rfl _ _ (N + 1) TReply _ (0,0) _ rfl (setRow_heap _ _ _ _ TReply (0,0) HD11.out.zr) Tryz.underlying36 rfl (by kernel_rfl)) rfl ?_
 exact ⟨rfl,⟨s2,hv',S',r',HRQ.out,HLO.out,(HD8.out.vin.log.wt.2 r' (List.mem_append_right _ (List.mem_singleton.2 rfl))).2.1,HD11.out.fin.1,HS'.out⟩,HD11.out.fin.2⟩
end
end Go.Proofs.YtabdcphioccgnaaGreatDoor
