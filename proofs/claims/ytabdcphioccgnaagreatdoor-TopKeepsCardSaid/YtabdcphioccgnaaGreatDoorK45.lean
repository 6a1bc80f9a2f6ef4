/- VSync. -/
import Derived.Test.YtabdcphioccgnaaGreatDoorK44
set_option maxRecDepth 100000
set_option maxHeartbeats 8000000
namespace Go.Proofs.YtabdcphioccgnaaGreatDoor
section
open Go.RowKit Go.ChangeMaps Go.MapKept
theorem fd_row {w : World} {b : Nat} {n pn g : Int} {iv hv : Value} {gen seq : Nat} {sgs rcs : Int} (h : w.heap[b]? = some (.cells (fndA n pn g iv gen seq sgs rcs hv) TFound (0,0))) : w.cell? ⟨b,0,none⟩ = some (.int .i64 n) /\ w.cell? ⟨b,1,none⟩ = some (.int .i64 pn) /\ w.cell? ⟨b,2,none⟩ = some (.int .i64 g) /\ w.cell? ⟨b,3,none⟩ = some iv /\ w.cell? ⟨b,4,none⟩ = some (.int .u64 (gen : Int)) /\ w.cell? ⟨b,5,none⟩ = some (.int .u64 (seq : Int)) /\ w.cell? ⟨b,6,none⟩ = some (.int .i64 sgs) /\ w.cell? ⟨b,7,none⟩ = some (.int .i64 rcs) /\ w.cell? ⟨b,8,none⟩ = some hv :=
 ⟨cells_at h 0,cells_at h 1,cells_at h 2,cells_at h 3,cells_at h 4,cells_at h 5,cells_at h 6,cells_at h 7,cells_at h 8⟩
theorem dk_ne {w : World} {d sb mb n k : Nat} {S : List UInt8} {C : Array Value} (h : w.heap[k]? = some (.cells C TFound (0,0))) (e : k = d ∨ k = sb ∨ k = mb) (hD : Dk w d sb mb n S nM) : False:=by
 obtain ⟨_,_,_,⟨cap,wr,h4,cur,h5,_⟩,L,h6,_⟩:=hD
 rcases e with rfl | rfl | rfl
 ·exact absurd (cells_ne h4 h) (by decide)
 ·exact absurd (cells_ne h5 h) (by decide)
 ·obtain ⟨es,cl,hm,_⟩:=h6
  rw [h] at hm; injection hm with hm; cases hm
theorem DoS.found {w W W' : World} {B0 B d sb mb n pn g v st l N K A : Nat} {S id : List UInt8} {lh wv iv hv : Value} {V : VltM} {o R C : Array Value} (h : DoS w W B0 B d sb mb n pn g S id v st l lh wv iv hv V st V.σ N K o R) (hza : W.heap[A]? = some (.cells C TFound (0,0))) (hc : Chg (fun k => k = A) W W') (hA : B <= A) : DoS w W' B0 B d sb mb n pn g S id v st l lh wv iv hv V st V.σ N K o R:=by
 have hvt : ∀ k C fr ty,k = A -> TFound ≠ ty -> W.heap[k]? ≠ some (.cells C ty fr):=fun k C fr ty e ht hC => by rw [e] at hC; exact ht (cells_ne hza hC)
 have hk : ∀ (k : Nat) (C : Array Value) (ty : TypeId),W.heap[k]? = some (.cells C ty (0,0)) -> TFound ≠ ty -> W'.heap[k]? = some (.cells C ty (0,0)):=fun k C ty hC ht => (hc.block k (ltH hC) (fun e => hvt k _ _ _ e ht hC)).trans hC
 have hal : ∀ k,k < W.heap.size -> k = A -> k < B ∨ AlienS W k:=fun k _ e => .inr (by rw [e]; exact alien_ty hza ⟨by decide,by decide,by decide,by decide,by decide,by decide,by decide⟩)
 have hv:=h.vin
 exact ⟨⟨hk v _ _ hv.cel (by decide),hv.st.alien hc hal,hv.log.chgs hc (fun e => hvt l _ _ _ e (by decide) hv.log.cel) (fun k C fr e => hvt k C fr _ e (by decide)) (fun k C fr e => hvt k C fr _ e (by decide)),own_set hc hza (by decide) hv.idv,
  hv.dk.chgs hc (fun e => dk_ne hza (.inl e.symm) hv.dk) (fun e => dk_ne hza (.inr (.inl e.symm)) hv.dk) (fun e => dk_ne hza (.inr (.inr e.symm)) hv.dk),hv.vB,hv.lB,hv.dB,hv.sB,hv.mB⟩,
  h.st.alien hc hal,hk N _ _ h.zo (by decide),hk _ _ _ h.zr (by decide),hk _ _ _ h.zk (by decide),h.ge,
  h.fr.trans (fr_chg hc (Nat.le_trans h.b0.1 hv.size) (fun k _ e => ⟨by have:=h.b0.1; omega,fun C fr => hvt k C fr _ e (by decide)⟩)),h.b0,h.le⟩
def shutM (M : LogM) : LogM:=if M.wait = [] then M else sealM M
def ShutS (S : List UInt8) (M : LogM) (pn n : Nat) (S1 : List UInt8) : Prop:=if M.wait = [] then S1 = S else ∀ j,j < n -> secOf S1 j = sect S (layM nM (1 + 2 * pn + M.sealed * 8) (segBytes M.sealed M.next M.head M.wait) 8) j
theorem shutM_ok {g : Int} {M : LogM} (h : LogOk g M) (h1 : 1 <= M.next) (hr : M.wait ≠ [] -> (M.sealed : Int) < g) : (shutM M).wait = [] /\ 1 <= (shutM M).next /\ (shutM M).next <= 1099511627776 /\ LogOk g (shutM M):=by
 unfold shutM
 by_cases hw : M.wait = []
 ·rw [if_pos hw]
  exact ⟨hw,h1,by have:=h.nx; omega,h⟩
 ·rw [if_neg hw]
  exact ⟨rfl,Nat.le_trans h1 (Nat.le_add_right _ _),h.nx,h.shut (hr hw)⟩
def SyncMid (w W : World) (B0 B d sb mb n pn g : Nat) (S id : List UInt8) (v s2 l : Nat) (iv hv : Value) (V : VltM) (σ' : StM) (N K : Nat) (o R : Array Value) : Prop :=
 ∃ lh' S1,DoS w W B0 B d sb mb n pn g S1 id v s2 l lh' (.slice none 0 0) iv hv ⟨σ',shutM V.M,V.gen,V.seq,V.sgs,V.rcs⟩ s2 σ' N K o R /\ ShutS S V.M pn n S1
def SyncEnd (w W : World) (B0 B d sb mb n pn g : Nat) (S1 id : List UInt8) (v s2 l : Nat) (iv hv : Value) (V : VltM) (σ' : StM) (N K : Nat) (o R : Array Value) (A g1 q1 sl1 : Nat) : Prop :=
 ∃ ia' ic' ha' hac' S' lh',(∀ i,i < n -> secOf S' i = sect S1 (layM nM (ptFirst pn (V.gen + 1)) (ptBytes pn ⟨V.gen + 1,(shutM V.M).next - 1,(shutM V.M).sealed,(shutM V.M).head,stBytes σ'.T σ'.S σ'.now⟩) pn) i) /\
  DoS w W B0 B d sb mb n pn g S' id v s2 l lh' (.slice none 0 0) iv hv ⟨σ',shutM V.M,V.gen,V.seq,V.sgs,V.rcs⟩ s2 σ' N K o R /\ W.heap[A]? = some (.cells #[.int .i64 (n : Int),.int .i64 (pn : Int),.int .i64 (g : Int),.slice ia' 16 ic',.int .u64 (g1 : Int),.int .u64 (q1 : Int),.int .i64 (sl1 : Int),.int .i64 0,.slice ha' 32 hac'] TFound (0,0)) /\ Own W B (.slice ia' 16 ic') id
theorem vdo_sync {w : World} {B0 B d sb mb n pn g v st l c : Nat} {S id : List UInt8} {lh wv iv hv : Value} {V : VltM} (h : VIn w B d sb mb n pn g S id v st l lh wv iv hv V) (ok : TrOk c V.σ.T) (hc : c <= 60000) (hl8 : V.σ.S.l.length <= 8) (hB0 : B0 <= B /\ B0 <= d /\ B0 <= sb /\ B0 <= mb)
  (k : Nat) (hk : 1 <= k /\ k <= 17) (p x : List UInt8) (fd at_ nn : Int) (til : Nat) (sp : Int) (da : Option Addr) (dl dc : Nat) (σ' : StM) (nr : Int) (nd : Nd) (ht0 : turnsN k = false) (hs2 : safeN k (writesS V.σ fd) = 2) (hp : isPlan (n : Int) (pn : Int) (g : Int)) (hlog : LogOk g V.M) (hnx1 : 1 <= V.M.next) (hid : id.length = 16) (hf : ∀ i,σ'.fds i = none) (c' : Nat) (ok' : TrOk c' σ'.T) (hc' : c' <= 60000) (hsh : Shut0 σ'.T) (hsn : Sn0 σ'.S) (hbl : (stBytes σ'.T σ'.S σ'.now).length + 94 <= 128 * pn) (hr : Mk.right ⟨V.gen + 1,(shutM V.M).next - 1,(shutM V.M).sealed,(shutM V.M).head,(stBytes σ'.T σ'.S σ'.now)⟩ g)
  (hw : V.M.wait = [] -> wv = .slice none 0 0) (hroom : V.M.wait ≠ [] -> (V.M.sealed : Int) < (g : Int)) (hfn : V.M.wait ≠ [] -> 1 + 2 * pn + V.M.sealed * 8 + 8 <= n) (HDO : VDo w B V.σ σ' (ovCells k (strOf p) (strOf x) fd at_ nn til sp da dl dc) 0 nr nd RPnil) :
  Calls Tryz.prog 5 #[.pointer (some ⟨v,0,none⟩),.agg (ovCells k (strOf p) (strOf x) fd at_ nn til sp da dl dc)] w fun e w' => e = .returned (.agg (rpC 0 nr (.slice none 0 0) (.slice none 0 0) nd)) /\ (∃ st' lh' iv' hv' S',VIn w' B d sb mb n pn g S' id v st' l lh' (.slice none 0 0) iv' hv' ⟨σ',(shutM V.M),V.gen + 1,(shutM V.M).next - 1,(shutM V.M).sealed,0⟩ /\ ∃ S1,ShutS S V.M pn n S1 /\ ∀ i,i < n -> secOf S' i = sect S1 (layM nM (ptFirst pn (V.gen + 1)) (ptBytes pn ⟨V.gen + 1,(shutM V.M).next - 1,(shutM V.M).sealed,(shutM V.M).head,(stBytes σ'.T σ'.S σ'.now)⟩) pn) i) /\ Fr B0 w w':=by
 have HP:=qh hp
 have HLG:=qh (aI hlog (aI hnx1 hw))
 have HST:=qh (aI hf (aI ok' (aI hc' (aI hsh (aI hsn (aI hbl (aI hr hid)))))))
 have HRM:=qh (aI hroom hfn)
 clear hroom hfn hp hlog hnx1 hw hf ok' hc' hsh hsn hbl hr hid
 obtain ⟨w1,hw1⟩:=qnm (w.alloc (.cells (ovCells k (strOf p) (strOf x) fd at_ nn til sp da dl dc) TOp))
 obtain ⟨w0,hw0⟩:=qnm (w1.alloc (.cells rpZ TReply))
 have hb1:=qba hw1
 have hb0':=qba hw0
 have hs1 : w1.heap.size = w.heap.size + 1:=by rw [hw1]; simp
 have hs0 : w0.heap.size = w.heap.size + 2:=by rw [hw0]; simp [hs1]
 have hb0 : Below w.heap.size w w0:=hb1.trans (hb0'.mono hb1.size)
 obtain ⟨N,hN⟩:=qnm w.heap.size
 have hz1 : w0.heap[N]? = some (.cells (ovCells k (strOf p) (strOf x) fd at_ nn til sp da dl dc) TOp (0,0)):=by rw [hN]; exact (hb0'.block _ (by omega)).trans (by rw [hw1]; exact heap_alloc_new w _)
 have hz0 : w0.heap[N + 1]? = some (.cells rpZ TReply (0,0)):=by rw [hN,<- hs1,hw0]; exact heap_alloc_new w1 _
 have h0:=h.below hb0
 obtain ⟨t,sn,fp,hst⟩:=h0.st
 have HCP:=qh (stcopy_any hst ok hc hl8 h0.size)
 have c1:=(vault_cells h0.cel).2.1
 obtain ⟨wr,hwr⟩:=qnm (writesS V.σ fd)
 have HX:=qh (aI h (aI hb0 (aI hz1 (aI hz0 (aI hB0 (aI hs0 (aI hN hwr)))))))
 have HW:=qh (aI hw0 (aI hw1 (aI hs1 hN)))
 obtain ⟨o0,o1,o2,o3,o4,o5,o6,o7,o8⟩:=ov_cells hz1
 unfold VDo at HDO
 have HNN:=qh hN
 clear h ok hc hl8 hB0 hw1 hw0 hb1 hb0' hs1 hs0 hb0 hz1 hz0 h0 hst hwr hN
 have HDO:=qh HDO
 go_enter Tryz.func5,Tryz.ntmps5
 go_upto_region 1 with fail
 have HWX:=qh HW.out
 unfold rpZ ovCells at HWX
 unfold ovCells
 rw [<- HWX.out.2.1,<- HWX.out.1,<- HWX.out.2.2.2]
 clear HWX HW
 go_wp2_with fail
 refine HCP.out.mono ?_
 rintro e w2 ⟨s2,t2,sn2,rfl,hS2,hb2⟩
 clear o0 o1 o2 o3 o4 o5 o6 o7 o8 c1 HCP
 have hzo2:=(hb2.block N (ltH HX.out.2.2.1)).trans HX.out.2.2.1
 obtain ⟨o0,o1,o2,o3,o4,o5,o6,o7,o8⟩:=ov_cells hzo2
 have hwr:=writes_any hS2 fd
 rw [<- HX.out.2.2.2.2.2.2.2] at hwr
 have HWR:=qh hwr
 have HDD:=qh (HDO.out w2 s2 t2 sn2 fp w0.heap.size (Nat.le_trans HX.out.1.size HX.out.2.1.size) HX.out.2.1.size hb2.size (HX.out.2.1.trans (hb2.mono HX.out.2.1.size)) hS2)
 unfold ovCells at HDD
 have H2:=qh hb2
 clear hS2 hb2 hzo2 hwr HDO
 go_wp2_with fail
 refine HWR.out.mono ?_
 rintro e w3 ⟨rfl,rfl⟩
 go_wp2_with fail
 refine HDD.out.mono ?_
 rintro e w3 ⟨⟨a1,n1,k1,a2,n2,k2,rfl,hRP⟩,⟨t3,sn3,fp3,hS3⟩,hF3⟩
 clear o0 o1 o2 o3 o4 o5 o6 o7 o8 HDD HWR
 obtain ⟨w4,hw4⟩:=qnm (w3.alloc (.cells (rpC 0 nr (.slice a1 n1 k1) (.slice a2 n2 k2) nd) TReply))
 obtain ⟨K,hK⟩:=qnm w3.heap.size
 have hb34:=qba hw4
 have hb03 : Below w0.heap.size w0 w3:=H2.out.trans hF3.1
 have hb04 : Below w0.heap.size w0 w4:=hb03.trans (hb34.mono hb03.size)
 have hd4 : (DoS w w4 B0 B d sb mb n pn g S id v st l lh wv iv hv V s2 σ' N K (ovCells k (strOf p) (strOf x) fd at_ nn til sp da dl dc) (rpC 0 nr (.slice a1 n1 k1) (.slice a2 n2 k2) nd)):=(by
  obtain ⟨h,hb0,hz1,hz0,hB0,hs0,hN,_⟩:=HX.out
  have hb4:=hb0.trans (hb04.mono hb0.size)
  exact ⟨h.below hb4,StAt.chgs ⟨_,_,_,hS3.frozen (Nat.le_trans h.size hb0.size)⟩ hb34,(hb04.block N (ltH hz1)).trans hz1,(hb04.block (N + 1) (ltH hz0)).trans hz0,by rw [hw4,hK]; exact heap_alloc_new w3 _,Nat.le_of_eq hN.symm,Fr.of hb4 (Nat.le_trans hB0.1 h.size),hB0,h.size⟩)
 have HD4:=qh hd4
 clear hd4
 have HR4:=qh (aI hRP (aI hb34 (aI (aI (HX.out.2.1.trans (hb04.mono HX.out.2.1.size)) (aI HX.out.2.2.2.2.2.1 HX.out.1.lt)) HX.out.2.2.2.2.2.2.2)))
 unfold rpC at hw4
 have HW4:=qh (aI hw4 hK)
 clear hw4 hK hb34 hb03 hb04 hRP hS3 hF3 HX H2
 unfold rpC
 go_upto_region 4 with fail
 rw [<- HW4.out.1,<- HW4.out.2]
 clear HW4
 obtain ⟨r0,r1,r2,r3,r4,r5,r6,r7,r8,r9⟩:=rp_cells HD4.out.zk
 obtain ⟨o0,o1,o2,o3,o4,o5,o6,o7,o8⟩:=ov_cells HD4.out.zo
 obtain ⟨e1,e2⟩:=HR4.out.1
 cases e1
 cases e2
 have ht:=turns_any k hk (strOf p) (strOf x) fd at_ nn til sp da dl dc w4
 rw [ht0] at ht
 unfold ovCells at ht
 have HT:=qh ht
 clear ht ht0
 go_wp2_with fail
 refine HT.out.mono ?_
 rintro e w5 ⟨rfl,hb5⟩
 clear HT
 clear r0 r1 r2 r3 r4 r5 r6 r7 r8 r9 o0 o1 o2 o3 o4 o5 o6 o7 o8
 have HD5:=qh (HD4.out.below hb5)
 have H5:=qh hb5
 clear hb5
 obtain ⟨c0,c1,c2,c3,c4,c5,c6,c7,c8,c9,c10,c11⟩:=vault_cells HD5.out.vin.cel
 have cv:=(vault_cells HD5.out.vin.cel).2.1
 have fv:=frz_of HD5.out.vin.cel 1
 obtain ⟨w6,hw6⟩:=qnm (w5.setCell ⟨v,1,none⟩ (.pointer (some ⟨s2,0,none⟩)))
 have hds:=HD5.out.setS
 rw [<- hw6] at hds
 have HD6:=qh hds
 have HWw6:=qh hw6
 clear hds hw6
 go_upto_region 13 with fail
 rw [<- HWw6.out]
 clear cv fv
 obtain ⟨r0,r1,r2,r3,r4,r5,r6,r7,r8,r9⟩:=rp_cells HD6.out.zk
 obtain ⟨o0,o1,o2,o3,o4,o5,o6,o7,o8⟩:=ov_cells HD6.out.zo
 have hsf:=safe_any k hk (strOf p) (strOf x) fd at_ nn til sp da dl dc wr w6
 rw [HR4.out.2.2.2,hs2] at hsf
 unfold ovCells at hsf
 have HSF:=qh hsf
 have HWR:=qh HR4.out.2.2.2
 rw [HR4.out.2.2.2]
 clear hsf
 go_wp2_with fail
 refine HSF.out.mono ?_
 rintro e w7 ⟨rfl,hbs⟩
 clear HSF
 clear r0 r1 r2 r3 r4 r5 r6 r7 r8 r9 o0 o1 o2 o3 o4 o5 o6 o7 o8
 have HD7:=qh (HD6.out.below hbs)
 have HBS:=qh hbs
 clear hbs
 have hop:=open_of HD7.out.st HST.out.1
 have HOP:=qh hop
 clear hop
 go_wp2_with fail
 refine HOP.out.mono ?_
 rintro e w8 ⟨⟨oa,oc,rfl⟩,hb8⟩
 have HD8:=qh (HD7.out.below hb8)
 have cl:=(vault_cells HD8.out.vin.cel).2.2.1
 clear hb8 HOP
 go_upto_region 18 with fail
 go_cut [10] (fun s wx => s = .bool true /\ SyncMid w wx B0 B d sb mb n pn g S id v s2 l iv hv V σ' N K (ovCells k (strOf p) (strOf x) fd at_ nn til sp da dl dc) (rpC 0 nr (.slice none 0 0) (.slice none 0 0) nd))
 case first =>
  by_cases hw : V.M.wait = []
  ·have HSE:=qh (seal_none HD8.out.vin.log hw)
   have HM:=qh (show SyncMid w w8 B0 B d sb mb n pn g S id v s2 l iv hv V σ' N K _ _ from by
    have h:=HD8.out
    rw [HLG.out.2.2 hw] at h
    exact ⟨lh,S,by unfold shutM; rw [if_pos hw]; exact h,by unfold ShutS; rw [if_pos hw]⟩)
   clear hw
   go_wp2_with fail
   refine HSE.out.mono ?_
   rintro e w9 ⟨rfl,hw9⟩
   rw [hw9]
   clear hw9 w9 HSE
   go_wp2_with fail
   go_meet
   exact ⟨rfl,HM.out⟩
  ·have hse:=seal_ok HD8.out.vin.log HD8.out.vin.dk HD8.out.vin.dB HD8.out.vin.sB HD8.out.vin.mB HD8.out.vin.lB HD8.out.vin.size HP.out HLG.out.1 (HRM.out.1 hw) hw (1 + 2 * pn + V.M.sealed * 8) (by push_cast; rfl) (HRM.out.2 hw)
   have HSE:=qh hse
   have HWN:=qh hw
   clear hse hw
   go_wp2_with fail
   refine HSE.out.mono ?_
   rintro e w9 ⟨rfl,⟨hv9,hL9⟩,⟨S9,hD9,hS9⟩,hc9⟩
   have HM:=qh (show SyncMid w w9 B0 B d sb mb n pn g S id v s2 l iv hv V σ' N K _ _ from ⟨hv9,S9,by unfold shutM; rw [if_neg HWN.out]; exact HD8.out.shut hc9 hL9 hD9,by unfold ShutS; rw [if_neg HWN.out]; exact hS9⟩)
   clear HSE hL9 hD9 hS9 hc9
   go_wp2_with fail
   go_meet
   exact ⟨rfl,HM.out⟩
 case rest =>
 obtain ⟨rfl,hmid⟩:=hcut
 obtain ⟨lh9,S9,hd9,hs9⟩:=hmid
 obtain ⟨w9,hw9⟩:=qnm wc
 rw [<- hw9] at hd9 ⊢
 have HD9:=qh hd9
 have HS9:=qh hs9
 have HLM:=qh (shutM_ok HLG.out.1 HLG.out.2.1 HRM.out.1)
 clear hd9 hs9 hw9 wc HD8 cl
 obtain ⟨ia,ic,rfl,_⟩:=HD9.out.vin.idv.bsn (n:=16) HST.out.2.2.2.2.2.2.2
 obtain ⟨g1,hg1⟩:=qnm (V.gen + 1)
 obtain ⟨q1,hq1⟩:=qnm ((shutM V.M).next - 1)
 obtain ⟨sl1,hsl1⟩:=qnm ((shutM V.M).sealed)
 have HG1:=qh (aI hg1 (aI hq1 hsl1))
 clear hg1 hq1 hsl1
 go_upto_region 20 with fail
 go_cut [11,12] (fun a b wx => b = .int .i64 0 /\ ∃ A,a = .pointer (some ⟨A,0,none⟩) /\ SyncEnd w wx B0 B d sb mb n pn g S9 id v s2 l (.slice ia 16 ic) hv V σ' N K (ovCells k (strOf p) (strOf x) fd at_ nn til sp da dl dc) (rpC 0 nr (.slice none 0 0) (.slice none 0 0) nd) A g1 q1 sl1)
 case first =>
  obtain ⟨wd,hwd⟩:=qnm w9.drew
  have HDd:=qh (HD9.out.below (W':=wd) (by rw [hwd]; exact (Below.refl _ _).drew))
  refine heldB_start (fun i => List.contains (List.range 22) i) (fun w' => w'.cell? ⟨v,0,none⟩ = some (.pointer (some ⟨d,0,none⟩)) /\ w'.cell? ⟨v,1,none⟩ = some (.pointer (some ⟨s2,0,none⟩)) /\ w'.cell? ⟨v,2,none⟩ = some (.pointer (some ⟨l,0,none⟩)) /\ w'.cell? ⟨v,3,none⟩ = some (.int .i64 (n : Int)) /\ w'.cell? ⟨v,4,none⟩ = some (.int .i64 (pn : Int)) /\ w'.cell? ⟨v,5,none⟩ = some (.int .i64 (g : Int)) /\ w'.cell? ⟨v,6,none⟩ = some (.slice ia 16 ic) /\ w'.cell? ⟨v,7,none⟩ = some (.int .u64 (V.gen : Int)) /\ w'.cell? ⟨v,8,none⟩ = some (.int .u64 (V.seq : Int)) /\ w'.cell? ⟨v,9,none⟩ = some (.int .i64 V.sgs) /\ w'.cell? ⟨v,10,none⟩ = some (.int .i64 V.rcs) /\ w'.cell? ⟨v,11,none⟩ = some hv) (by kernel_rfl) ?_ (fun hHeld => ?_)
  ·rw [<- hwd]; exact vault_cells HDd.out.vin.cel
  rw [<- hwd] at hHeld ⊢
  clear hwd
  refine qtk 0 76 ?_
  simp only [qz0,qz1]
  refine qtk 1 77 ?_
  simp only [qz0,qz1]
  refine qtk 2 78 ?_
  simp only [qz0,qz1]
  refine qtk 3 79 ?_
  simp only [qz0,qz1]
  refine qtk 4 80 ?_
  simp only [qz0,qz1]
  refine qtk 5 81 ?_
  simp only [qz0,qz1]
  refine qtk 6 82 ?_
  simp only [qz0,qz1]
  refine qtk 7 83 ?_
  simp only [qz0,qz1]
  refine qtk 8 84 ?_
  simp only [qz0,qz1]
  refine qtk 9 85 ?_
  simp only [qz0,qz1]
  refine qtk 10 86 ?_
  simp only [qz0,qz1]
  refine qtk 11 87 ?_
  simp only [qz0,qz1]
  refine qtk 12 88 ?_
  simp only [qz0,qz1]
  refine qtk 13 89 ?_
  simp only [qz0,qz1]
  refine qtk 14 90 ?_
  simp only [qz0,qz1]
  refine qtk 15 91 ?_
  simp only [qz0,qz1]
  refine heldB_two 16 20 (by kernel_rfl) rfl rfl (fun K hK => ?_) (fun K hK => ?_)
  ·have hms:=msaveall_ok (M:=(shutM V.M)) HDd.out.vin.dk g pn HP.out (by obtain ⟨h1,_,h3,_⟩:=HP.out; omega) HDd.out.vin.log HLM.out.1 HLM.out.2.1 HLM.out.2.2.1 ia ic id (HDd.out.vin.idv.bsAt HST.out.2.2.2.2.2.2.2) (own_far HDd.out.vin.idv HDd.out.vin.dB HDd.out.vin.sB HDd.out.vin.mB) V.gen V.seq V.sgs V.rcs hv _ HST.out.2.2.2.2.2.1 HST.out.2.2.2.2.2.2.1 (fun W hb => open_of (HDd.out.below hb).st HST.out.1) (fun W hb => save_of (HDd.out.below hb).st HST.out.2.1 HST.out.2.2.1 HST.out.2.2.2.1 HST.out.2.2.2.2.1 (HDd.out.below hb).vin.size)
   rw [<- HG1.out.1,<- HG1.out.2.1,<- HG1.out.2.2] at hms
   unfold fndV at hms
   have HMS:=qh hms
   clear hms
   go_simp
   refine HMS.out.mono ?_
   rintro e w10 ⟨iv',hv',rfl,⟨hI,hH⟩,⟨S10,hD10,hS10⟩,hc10⟩
   obtain ⟨ia',ic',rfl,_⟩:=hI.bsn (n:=16) HST.out.2.2.2.2.2.2.2
   obtain ⟨ha',hac',rfl,_⟩:=hH.bsn (n:=32) HST.out.2.2.2.2.2.2.1.2.2.2.2.2
   have HD10:=qh (HDd.out.disked hc10 hD10)
   have HS10:=qh (aI hS10 (aI (hI.base (B':=B) HDd.out.vin.size) hc10))
   have hHeld:=vault_cells HD10.out.vin.cel
   clear hI hH hD10 hS10 hc10 HMS
   go_wp2_with fail
   refine hK.out _ _ (fun _ => hHeld) ?_
   clear hK K
   refine qtk 17 75 ?_
   simp only [qz0,qz1]
   refine qtk 18 93 ?_
   simp only [qz0,qz1]
   refine qtk 19 94 ?_
   simp only [qz0,qz1]
   refine qone 20 fun K hK => ?_
   go_simp
   obtain ⟨wa,hwa⟩:=qnm (w10.alloc (.cells #[.int .i64 0,.int .i64 0,.int .i64 0,.slice none 0 0,.int .u64 0,.int .u64 0,.int .i64 0,.int .i64 0,.slice none 0 0] TFound))
   have hba:=qba hwa
   obtain ⟨A,hA⟩:=qnm w10.heap.size
   have hza : wa.heap[A]? = some (.cells (fndA 0 0 0 (.slice none 0 0) 0 0 0 0 (.slice none 0 0)) TFound (0,0)):=by rw [hwa,hA]; exact heap_alloc_new _ _
   have HZA:=qh hza
   have HAB:=qh (show B <= A by rw [hA]; exact HD10.out.vin.size)
   have HDa:=qh (HD10.out.below hba)
   have hHeld:=vault_cells HDa.out.vin.cel
   have his:=HS10.out.2.1.below hba
   have HIS:=qh his
   clear his
   rw [<- hwa,<- hA]
   clear hba hza hwa hA
   refine hK.out _ _ (fun _ => hHeld) ?_
   clear hK K
   refine qone 21 fun K hK => ?_
   have hza:=HZA.out
   have z0 : wa.cell? ⟨A,0,none⟩ = some (.int .i64 0):=cells_at hza 0
   have f0:=frz_of hza 0
   have z1 : wa.cell? ⟨A,1,none⟩ = some (.int .i64 0):=cells_at hza 1
   have f1:=frz_of hza 1
   have z2 : wa.cell? ⟨A,2,none⟩ = some (.int .i64 0):=cells_at hza 2
   have f2:=frz_of hza 2
   have z3 : wa.cell? ⟨A,3,none⟩ = some (.slice none 0 0):=cells_at hza 3
   have f3:=frz_of hza 3
   have z4 : wa.cell? ⟨A,4,none⟩ = some (.int .u64 0):=cells_at hza 4
   have f4:=frz_of hza 4
   have z5 : wa.cell? ⟨A,5,none⟩ = some (.int .u64 0):=cells_at hza 5
   have f5:=frz_of hza 5
   have z6 : wa.cell? ⟨A,6,none⟩ = some (.int .i64 0):=cells_at hza 6
   have f6:=frz_of hza 6
   have z7 : wa.cell? ⟨A,7,none⟩ = some (.int .i64 0):=cells_at hza 7
   have f7:=frz_of hza 7
   have z8 : wa.cell? ⟨A,8,none⟩ = some (.slice none 0 0):=cells_at hza 8
   have f8:=frz_of hza 8
   have hzl:=ltH hza
   go_simp
   have hch:=chg9 wa A (.int .i64 (n : Int)) (.int .i64 (pn : Int)) (.int .i64 (g : Int)) (.slice ia' 16 ic') (.int .u64 (g1 : Int)) (.int .u64 (q1 : Int)) (.int .i64 (sl1 : Int)) (.int .i64 0) (.slice ha' 32 hac')
   have hfs:=fnd_store hza (.int .i64 (n : Int)) (.int .i64 (pn : Int)) (.int .i64 (g : Int)) (.slice ia' 16 ic') (.int .u64 (g1 : Int)) (.int .u64 (q1 : Int)) (.int .i64 (sl1 : Int)) (.int .i64 0) (.slice ha' 32 hac')
   obtain ⟨wf,hwf⟩:=qnm ((((((((((wa.setCell ⟨A,0,none⟩ (.int .i64 (n : Int))).setCell ⟨A,1,none⟩ (.int .i64 (pn : Int))).setCell ⟨A,2,none⟩ (.int .i64 (g : Int))).setCell ⟨A,3,none⟩ (.slice ia' 16 ic')).setCell ⟨A,4,none⟩ (.int .u64 (g1 : Int))).setCell ⟨A,5,none⟩ (.int .u64 (q1 : Int))).setCell ⟨A,6,none⟩ (.int .i64 (sl1 : Int))).setCell ⟨A,7,none⟩ (.int .i64 0)).setCell ⟨A,8,none⟩ (.slice ha' 32 hac')))
   rw [<- hwf] at hch hfs ⊢
   have HDf:=qh (HDa.out.found hza hch HAB.out)
   have hof:=own_set hch hza (by decide) (HIS.out)
   have HF:=qh (aI hfs hof)
   have hHeld:=vault_cells HDf.out.vin.cel
   clear hza hzl hch hfs hof hwf z0 f0 z1 f1 z2 f2 z3 f3 z4 f4 z5 f5 z6 f6 z7 f7 z8 f8
   refine hK.out _ _ (fun _ => hHeld) ?_
   clear hK K
   refine qfr 22 12 ?_
   simp only [qz0,qz1]
   refine qdon ?_
   clear hHeld
   go_wp2_with fail
   go_meet
   exact ⟨rfl,A,rfl,ia',ic',ha',hac',S10,lh9,by rw [<- HG1.out.1,<- HG1.out.2.1,<- HG1.out.2.2]; exact HS10.out.1,HDf.out,HF.out.1,HF.out.2⟩
  ·go_simp
   obtain ⟨wa,hwa⟩:=qnm (wd.alloc (.cells #[.int .i64 0,.int .i64 0,.int .i64 0,.slice none 0 0,.int .u64 0,.int .u64 0,.int .i64 0,.int .i64 0,.slice none 0 0] TFound))
   have hba:=qba hwa
   obtain ⟨A,hA⟩:=qnm wd.heap.size
   have hza : wa.heap[A]? = some (.cells (fndA 0 0 0 (.slice none 0 0) 0 0 0 0 (.slice none 0 0)) TFound (0,0)):=by rw [hwa,hA]; exact heap_alloc_new _ _
   have HZA:=qh hza
   have HAB:=qh (show B <= A by rw [hA]; exact HDd.out.vin.size)
   have HDa:=qh (HDd.out.below hba)
   have hHeld:=vault_cells HDa.out.vin.cel
   rw [<- hwa,<- hA]
   clear hba hza hwa hA
   refine hK.out _ _ (fun _ => hHeld) ?_
   clear hK K
   refine qone 16 fun K hK => ?_
   have hms:=msaveall_ok (M:=(shutM V.M)) HDa.out.vin.dk g pn HP.out (by obtain ⟨h1,_,h3,_⟩:=HP.out; omega) HDa.out.vin.log HLM.out.1 HLM.out.2.1 HLM.out.2.2.1 ia ic id (HDa.out.vin.idv.bsAt HST.out.2.2.2.2.2.2.2) (own_far HDa.out.vin.idv HDa.out.vin.dB HDa.out.vin.sB HDa.out.vin.mB) V.gen V.seq V.sgs V.rcs hv _ HST.out.2.2.2.2.2.1 HST.out.2.2.2.2.2.2.1 (fun W hb => open_of (HDa.out.below hb).st HST.out.1) (fun W hb => save_of (HDa.out.below hb).st HST.out.2.1 HST.out.2.2.1 HST.out.2.2.2.1 HST.out.2.2.2.2.1 (HDa.out.below hb).vin.size)
   rw [<- HG1.out.1,<- HG1.out.2.1,<- HG1.out.2.2] at hms
   unfold fndV at hms
   have HMS:=qh hms
   clear hms
   go_simp
   refine HMS.out.mono ?_
   rintro e w10 ⟨iv',hv',rfl,⟨hI,hH⟩,⟨S10,hD10,hS10⟩,hc10⟩
   obtain ⟨ia',ic',rfl,_⟩:=hI.bsn (n:=16) HST.out.2.2.2.2.2.2.2
   obtain ⟨ha',hac',rfl,_⟩:=hH.bsn (n:=32) HST.out.2.2.2.2.2.2.1.2.2.2.2.2
   have HD10:=qh (HDa.out.disked hc10 hD10)
   have HS10:=qh (aI hS10 (aI (hI.base (B':=B) HDa.out.vin.size) hc10))
   have hHeld:=vault_cells HD10.out.vin.cel
   have hza10:=(hc10.block A (ltH HZA.out) (fun e => dk_ne HZA.out e HDa.out.vin.dk)).trans HZA.out
   clear HZA
   have HZA:=qh hza10
   clear hza10
   clear hI hH hD10 hS10 hc10 HMS
   go_wp2_with fail
   refine hK.out _ _ (fun _ => hHeld) ?_
   clear hK K
   refine qtk 17 75 ?_
   simp only [qz0,qz1]
   refine qtk 18 93 ?_
   simp only [qz0,qz1]
   refine qtk 19 94 ?_
   simp only [qz0,qz1]
   refine qone 21 fun K hK => ?_
   have hza:=HZA.out
   have z0 : w10.cell? ⟨A,0,none⟩ = some (.int .i64 0):=cells_at hza 0
   have f0:=frz_of hza 0
   have z1 : w10.cell? ⟨A,1,none⟩ = some (.int .i64 0):=cells_at hza 1
   have f1:=frz_of hza 1
   have z2 : w10.cell? ⟨A,2,none⟩ = some (.int .i64 0):=cells_at hza 2
   have f2:=frz_of hza 2
   have z3 : w10.cell? ⟨A,3,none⟩ = some (.slice none 0 0):=cells_at hza 3
   have f3:=frz_of hza 3
   have z4 : w10.cell? ⟨A,4,none⟩ = some (.int .u64 0):=cells_at hza 4
   have f4:=frz_of hza 4
   have z5 : w10.cell? ⟨A,5,none⟩ = some (.int .u64 0):=cells_at hza 5
   have f5:=frz_of hza 5
   have z6 : w10.cell? ⟨A,6,none⟩ = some (.int .i64 0):=cells_at hza 6
   have f6:=frz_of hza 6
   have z7 : w10.cell? ⟨A,7,none⟩ = some (.int .i64 0):=cells_at hza 7
   have f7:=frz_of hza 7
   have z8 : w10.cell? ⟨A,8,none⟩ = some (.slice none 0 0):=cells_at hza 8
   have f8:=frz_of hza 8
   have hzl:=ltH hza
   go_simp
   have hch:=chg9 w10 A (.int .i64 (n : Int)) (.int .i64 (pn : Int)) (.int .i64 (g : Int)) (.slice ia' 16 ic') (.int .u64 (g1 : Int)) (.int .u64 (q1 : Int)) (.int .i64 (sl1 : Int)) (.int .i64 0) (.slice ha' 32 hac')
   have hfs:=fnd_store hza (.int .i64 (n : Int)) (.int .i64 (pn : Int)) (.int .i64 (g : Int)) (.slice ia' 16 ic') (.int .u64 (g1 : Int)) (.int .u64 (q1 : Int)) (.int .i64 (sl1 : Int)) (.int .i64 0) (.slice ha' 32 hac')
   obtain ⟨wf,hwf⟩:=qnm ((((((((((w10.setCell ⟨A,0,none⟩ (.int .i64 (n : Int))).setCell ⟨A,1,none⟩ (.int .i64 (pn : Int))).setCell ⟨A,2,none⟩ (.int .i64 (g : Int))).setCell ⟨A,3,none⟩ (.slice ia' 16 ic')).setCell ⟨A,4,none⟩ (.int .u64 (g1 : Int))).setCell ⟨A,5,none⟩ (.int .u64 (q1 : Int))).setCell ⟨A,6,none⟩ (.int .i64 (sl1 : Int))).setCell ⟨A,7,none⟩ (.int .i64 0)).setCell ⟨A,8,none⟩ (.slice ha' 32 hac')))
   rw [<- hwf] at hch hfs ⊢
   have HDf:=qh (HD10.out.found hza hch HAB.out)
   have hof:=own_set hch hza (by decide) (HS10.out.2.1)
   have HF:=qh (aI hfs hof)
   have hHeld:=vault_cells HDf.out.vin.cel
   clear hza hzl hch hfs hof hwf z0 f0 z1 f1 z2 f2 z3 f3 z4 f4 z5 f5 z6 f6 z7 f7 z8 f8
   refine hK.out _ _ (fun _ => hHeld) ?_
   clear hK K
   refine qfr 22 12 ?_
   simp only [qz0,qz1]
   refine qdon ?_
   clear hHeld
   go_wp2_with fail
   go_meet
   exact ⟨rfl,A,rfl,ia',ic',ha',hac',S10,lh9,by rw [<- HG1.out.1,<- HG1.out.2.1,<- HG1.out.2.2]; exact HS10.out.1,HDf.out,HF.out.1,HF.out.2⟩
 case rest =>
 obtain ⟨rfl,A,rfl,hend⟩:=hcut
 obtain ⟨ia',ic',ha',hac',S10,lh10,hS10,hdf,hfz,hio⟩:=hend
 obtain ⟨wf,hwf⟩:=qnm wc
 rw [<- hwf] at hdf hfz hio ⊢
 have HDf:=qh hdf
 have HF:=qh (aI hfz hio)
 have HS10:=qh hS10
 clear hdf hfz hio hwf wc hS10
 obtain ⟨c0,c1,c2,c3,c4,c5,c6,c7,c8,c9,c10,c11⟩:=vault_cells HDf.out.vin.cel
 obtain ⟨d0,d1,d2,d3,d4,d5,d6,d7,d8⟩:=fd_row HF.out.1
 have f3:=frz_of HDf.out.vin.cel 3
 have f4:=frz_of HDf.out.vin.cel 4
 have f5:=frz_of HDf.out.vin.cel 5
 have f6:=frz_of HDf.out.vin.cel 6
 have f7:=frz_of HDf.out.vin.cel 7
 have f8:=frz_of HDf.out.vin.cel 8
 have f9:=frz_of HDf.out.vin.cel 9
 have f10:=frz_of HDf.out.vin.cel 10
 have f11:=frz_of HDf.out.vin.cel 11
 have hsf:=HDf.out.setF g1 q1 (sl1 : Int) 0 HF.out.2 (.slice ha' 32 hac')
 unfold putF at hsf
 obtain ⟨wg,hwg⟩:=qnm ((((((((((wf.setCell ⟨v,3,none⟩ (.int .i64 (n : Int))).setCell ⟨v,4,none⟩ (.int .i64 (pn : Int))).setCell ⟨v,5,none⟩ (.int .i64 (g : Int))).setCell ⟨v,6,none⟩ (.slice ia' 16 ic')).setCell ⟨v,7,none⟩ (.int .u64 (g1 : Int))).setCell ⟨v,8,none⟩ (.int .u64 (q1 : Int))).setCell ⟨v,9,none⟩ (.int .i64 (sl1 : Int))).setCell ⟨v,10,none⟩ (.int .i64 0)).setCell ⟨v,11,none⟩ (.slice ha' 32 hac')))
 rw [<- hwg] at hsf
 have HDg:=qh hsf
 have HWG:=qh hwg
 clear hsf hwg
 go_upto_region 23 with fail
 rw [<- HWG.out]
 clear c0 c1 c2 c3 c4 c5 c6 c7 c8 c9 c10 c11 d0 d1 d2 d3 d4 d5 d6 d7 d8 f3 f4 f5 f6 f7 f8 f9 f10 f11
 obtain ⟨r0,r1,r2,r3,r4,r5,r6,r7,r8,r9⟩:=rp_cells HDg.out.zk
 obtain ⟨o0,o1,o2,o3,o4,o5,o6,o7,o8⟩:=ov_cells HDg.out.zo
 go_wp2_with (refine wpList_store_row rfl TReply (.tmp 4) (.tmp 101) rfl (N + 1) (rpC 0 nr (.slice none 0 0) (.slice none 0 0) nd) rfl rfl TReply rpZ HDg.out.zr (by kernel_rfl) (by kernel_rfl) (by kernel_rfl) ?_)
 refine bodyPost_ret (v:=.agg (rpC 0 nr (.slice none 0 0) (.slice none 0 0) nd)) (results_cell_row rfl _ _ (N + 1) TReply _ (0,0) _ rfl (setRow_heap _ _ _ _ TReply (0,0) HDg.out.zr) Tryz.underlying36 rfl (by kernel_rfl)) rfl ?_
 exact ⟨rfl,⟨s2,_,_,_,_,by rw [<- HG1.out.1,<- HG1.out.2.1,<- HG1.out.2.2]; exact HDg.out.fin.1,S9,HS9.out,HS10.out⟩,HDg.out.fin.2⟩
end
end Go.Proofs.YtabdcphioccgnaaGreatDoor
