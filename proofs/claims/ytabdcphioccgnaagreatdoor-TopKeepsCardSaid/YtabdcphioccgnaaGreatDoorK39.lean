/- MPoint; MNewest; Concat0. -/
import Derived.Test.YtabdcphioccgnaaGreatDoorK38
set_option maxRecDepth 100000
set_option maxHeartbeats 8000000
namespace Go.Proofs.YtabdcphioccgnaaGreatDoor
section
open Go.RowKit Go.ChangeMaps Go.MapKept
theorem pdec_pt (s g : Int) (pn : Nat) (m : Mk) (a : Option Addr) (cap : Nat) (w : World) (hp : isPlan s pn g) (hr : m.right g) (hl : m.state.length + 94 <= 128 * pn) (hB : Bs w a (128 * pn) cap (ptBytes pn m)) :
  Calls Tryz.prog 208 #[.agg #[.int .i64 s,.int .i64 (pn : Int),.int .i64 g],.slice a (128 * pn) cap] w fun e w' => PtPost 0 m w.heap.size e w' /\ Below w.heap.size w w':=by
 have hbd:=hp.bd
 obtain ⟨r1,r2,r3,r4,r5,r6⟩:=hr
 have hMT : MT = 1099511627776:=rfl
 have hc:=crcMore_lt 0 (ptHead m.gen m.seq m.seg.toNat m.head m.state.length)
 have h0:=ptWhy_ok pn g m ⟨r1,r2,r3,r4,r5,r6⟩ (by omega) _ rfl
 have hD:=pdec_ok s pn g a (128 * pn) cap w m.gen m.seq m.seg.toNat m.state.length _ m.head _ _ hp hB (by omega) ⟨by omega,by omega,by omega,r6,by omega,hc,sha_length _⟩
 rw [show ((pn : Int)).toNat = pn from rfl] at h0
 rw [h0] at hD
 refine hD.mono ?_
 rintro e w' ⟨hP,hb⟩
 refine ⟨?_,hb⟩
 have e0 : ptMk 0 m.gen m.seq m.seg.toNat m.head m.state.length (m.state ++ List.replicate (128 * pn - 94 - m.state.length) 0) = m:=by
  unfold ptMk
  rw [if_pos rfl,List.take_left' rfl]
  obtain ⟨G,Q,SG,H,T⟩:=m
  simp only at *
  rw [Int.toNat_of_nonneg r4]
 rw [e0] at hP
 exact hP
theorem StAt.any0 {w : World} {L L' B B' C C' s : Nat} {σ : StM} (h : StAt w L B C s σ) (h0 : σ.S.l = []) (hf : ∀ i,σ.fds i = none) (hL : L' <= L) (hB : B' <= B) : StAt w L' B' C' s σ:=by
 obtain ⟨t,sn,fp,h⟩:=h
 exact ⟨t,sn,fp,Nat.le_trans hB h.sge,h.cel,(h.tree.base hL).weaken hB,h.snaps.any0 h0 hL hB,h.no,fun i o hi ho => by rw [hf] at ho; cases ho⟩
structure PtGood (g : Int) (pn c : Nat) (m : Mk) (T : Tr) (Sn : SnS) (now : Nat) : Prop where
 right : m.right g
 room : m.state.length + 94 <= 128 * pn
 st : m.state = stBytes T Sn now
 tr : TrGood c T
 shut : Shut0 T
 sn : Sn0 Sn
 nw : now <= 1099511627776
def MkOwn (w : World) (B : Nat) (m : Mk) (ah : Option Addr) (ch : Nat) (al : Option Addr) (lt ct : Nat) : Prop:=Own w B (.slice ah 32 ch) m.head /\ Own w B (.slice al lt ct) m.state
theorem mpoint_ok {w : World} {d sb mb n : Nat} {S : List UInt8} (hD : Dk w d sb mb n S nM) (s g : Int) (pn k c : Nat) (hp : isPlan s pn g) (hk : k < 2) (hn : 1 + 2 * pn <= n) (m : Mk) (T : Tr) (Sn : SnS) (now : Nat) (hg : PtGood g pn c m T Sn now) (hc : c <= 60000) (hcat : catS S nM (1 + k * pn) pn = ptBytes pn m) :
  Calls Tryz.prog 156 #[.pointer (some ⟨d,0,none⟩),.agg #[.int .i64 s,.int .i64 (pn : Int),.int .i64 g],.int .i64 (k : Int)] w fun e w' =>
   (∃ ah ch al lt ct st,e = .returned (.tuple #[.agg #[.int .u64 (m.gen : Int),.int .u64 (m.seq : Int),.int .i64 m.seg,.slice ah 32 ch,.slice al lt ct],.pointer (some ⟨st,0,none⟩),.bool true]) /\ MkOwn w' w.heap.size m ah ch al lt ct /\ StAt w' w.heap.size w.heap.size w.heap.size st ⟨T,Sn,now,fun _ => none⟩) /\ Below w.heap.size w w':=by
 obtain ⟨w0,hw0⟩:=qnm ((w.alloc (.cells #[.int .i64 s,.int .i64 (pn : Int),.int .i64 g] TPlan)).alloc (.cells #[.int .u64 0,.int .u64 0,.int .i64 0,.slice none 0 0,.slice none 0 0] TMark))
 have hb0 : Below w.heap.size w w0:=by rw [hw0]; exact (((Ext.refl w).alloc _).alloc _).1
 have hzp : w0.heap[w.heap.size]? = some (.cells #[.int .i64 s,.int .i64 (pn : Int),.int .i64 g] TPlan (0,0)):=by rw [hw0]; exact (Below.heap_alloc _ _ _ (by simp)).trans (heap_alloc_new w _)
 have hzm : w0.heap[w.heap.size + 1]? = some (.cells #[.int .u64 0,.int .u64 0,.int .i64 0,.slice none 0 0,.slice none 0 0] TMark (0,0)):=by
  rw [hw0]
  have:=heap_alloc_new (w.alloc (.cells #[.int .i64 s,.int .i64 (pn : Int),.int .i64 g] TPlan)) (.cells #[.int .u64 0,.int .u64 0,.int .i64 0,.slice none 0 0,.slice none 0 0] TMark)
  rwa [World.size_alloc] at this
 obtain ⟨N,hN⟩:=qnm w.heap.size
 rw [<- hN] at hzp hzm
 have HX:=qh (aI hD (aI hp (aI hg (aI hcat (aI hk hn)))))
 have HW:=qh (aI hw0 (aI hb0 (aI hzp (aI hzm hN))))
 have HPT:=qh (fun W => point_ok s pn g (k : Int) W hp (by omega) (by omega))
 obtain ⟨first,hfst⟩:=qnm (1 + k * pn)
 have hfi : (1 + (k : Int) * (pn : Int)) = (first : Int):=by rw [hfst]; push_cast; rfl
 rw [hfi] at HPT
 have hfn : first + pn <= n:=by
  rw [hfst]
  rcases (show k = 0 ∨ k = 1 by omega) with rfl | rfl <;> omega
 have hn4 : n <= 4096:=hD.2.2.1
 have HFI:=qh (aI hfst (aI hfn hn4))
 clear hD hp hg hcat hk hn hw0 hb0 hzp hzm hN hfst hfn hfi
 go_enter Tryz.func156,Tryz.ntmps156
 go_upto_region 1 with fail
 rw [<- HW.out.1,<- HW.out.2.2.2.2]
 obtain ⟨p0,p1,p2⟩:=pl_cells HW.out.2.2.1
 go_wp2_with fail
 refine (HPT.out w0).mono ?_
 rintro e w1 ⟨rfl,hb1⟩
 have H1:=qh hb1
 obtain ⟨p0,p1,p2⟩:=pl_cells ((hb1.block N (ltH HW.out.2.2.1)).trans HW.out.2.2.1)
 clear hb1
 go_wp2_with fail
 go_loopw [11,12,13,14,26] (fun out _ _ _ i wr => ∃ j : Nat,j <= pn /\ i = .int .i64 (j : Int) /\ Own wr w1.heap.size out (catS S nM first j) /\ Below w1.heap.size w1 wr) (fun _ _ _ _ i _ => pn - (intOf i).toNat)
 case atStart => exact ⟨0,by omega,rfl,Own.nil _ _,Below.refl _ _⟩
 case round =>
  obtain ⟨j,hj,rfl,hO,hbr⟩:=hrel
  by_cases hlt : j < pn
  ·have e1 : (j : Int) < (pn : Int):=by omega
   have hbw0 : Below w.heap.size w w1:=HW.out.2.1.trans (H1.out.mono HW.out.2.1.size)
   have hRD:=dread_any (HX.out.1.below (hbw0.trans (hbr.mono hbw0.size))) (first + j) (by have:=HFI.out; omega)
   have hsl:=(HX.out.1).sect_len (first + j) (by have:=HFI.out; omega)
   have HRD:=qh hRD
   obtain ⟨fj,hfj⟩:=qnm (first + j)
   rw [<- hfj] at HRD hsl
   have e2 : IntKind.i64.wrap ((first : Int) + (j : Int)) = (fj : Int):=by have:=HFI.out; rw [IntWalk.i64_in _ (by omega)]; omega
   obtain ⟨j2,hj2⟩:=qnm (j + 1)
   have e3 : IntKind.i64.wrap ((j : Int) + 1) = (j2 : Int):=by have:=HFI.out; rw [IntWalk.i64_in _ (by omega)]; omega
   have hcl : (catS S nM first j).length <= 1000000:=by rw [HX.out.1.catS_len first j (by have:=HFI.out; omega)]; have:=HFI.out; omega
   have HJ:=qh (aI hj2 (aI hlt (aI hfj (aI hcl hsl))))
   have HO:=qh (aI hO hbr)
   have hltO:=hO.ltp
   have HLO:=qh hltO
   clear hO hbr hbw0 hRD hsl hfj hj2 hcl hlt hj hltO
   go_wp2_with fail
   refine HRD.out.mono ?_
   rintro e w2 ⟨v2,rfl,ho2,hb2⟩
   obtain ⟨a2,c2,rfl,hB2⟩:=ho2.bsn (n:=128) HJ.out.2.2.2.2
   obtain ⟨hO,hbr⟩:=HO.out
   have hO2:=hO.below hb2
   have hbw2 : Below w1.heap.size w1 w2:=hbr.trans (hb2.mono hbr.size)
   have HP2:=qh (aI hbw2 (aI hO2 HJ.out))
   clear ho2 hb2 hO hbr
   go_wp2_with (at_builtin; (refine wpList_append_at rfl _ _ rfl w1.heap.size u11 (catS S nM first j) rfl hO2 a2 128 c2 _ rfl hB2 (by have:=HJ.out; omega) hbw2.size ?_; intro v3 w3 hO3 hg3 hv3))
   go_roundw
   case rel =>
    obtain ⟨hbw2,_,hj2,hlt,hfj,_⟩:=HP2.out
    refine ⟨j2,by omega,rfl,?_,hbw2.grown hg3 hbw2.size (fun x hx => hO2.ge x hx)⟩
    rw [hj2,catS_succ,<- hfj]
    exact hO3
   case measure =>
    obtain ⟨_,_,hj2,hlt,_⟩:=HP2.out
    show pn - (j2 : Int).toNat < pn - (j : Int).toNat
    omega
  ·obtain rfl : j = pn:=by omega
   clear hlt
   rw [HFI.out.1,HX.out.2.2.2.1] at hO
   obtain ⟨ab,cb,rfl,hBb⟩:=hO.bsn (n:=128 * j) (ptB_length j m HX.out.2.2.1.right.2.2.2.2.2 HX.out.2.2.1.room)
   have hzr:=(hbr.block N (ltH ((H1.out.block N (ltH HW.out.2.2.1)).trans HW.out.2.2.1))).trans ((H1.out.block N (ltH HW.out.2.2.1)).trans HW.out.2.2.1)
   obtain ⟨p0,p1,p2⟩:=pl_cells hzr
   have HDE:=qh (pdec_pt s g j m ab cb wr HX.out.2.1 HX.out.2.2.1.right HX.out.2.2.1.room hBb)
   have HR:=qh (show Below w0.heap.size w0 wr from H1.out.trans (hbr.mono H1.out.size))
   clear hO hBb hzr hbr
   go_wp2_with fail
   refine HDE.out.mono ?_
   rintro e w5 ⟨⟨ah,lh,ch,al,lt,ct,rfl,hoh,hos⟩,hb5⟩
   obtain rfl : lh = 32:=by
    obtain ⟨x1,x2,e,hx⟩:=hoh.bsn (n:=32) HX.out.2.2.1.right.2.2.2.2.2
    injection e
   obtain ⟨w6,hw6⟩:=qnm (w5.alloc (.cells #[.int .u64 (m.gen : Int),.int .u64 (m.seq : Int),.int .i64 m.seg,.slice ah 32 ch,.slice al lt ct] TMark))
   have hb6:=qba hw6
   obtain ⟨N6,hN6⟩:=qnm w5.heap.size
   have hz6 : w6.heap[N6]? = some (.cells #[.int .u64 (m.gen : Int),.int .u64 (m.seq : Int),.int .i64 m.seg,.slice ah 32 ch,.slice al lt ct] TMark (0,0)):=by rw [hw6,hN6]; exact heap_alloc_new w5 _
   have hb06 : Below w0.heap.size w0 w6:=(HR.out.trans (hb5.mono HR.out.size)).trans (hb6.mono (HR.out.trans (hb5.mono HR.out.size)).size)
   obtain ⟨q0,q1,q2,q3,q4⟩:=mk_cells hz6
   have hos6:=hos.below hb6
   obtain ⟨al',ct',hal,hBs6⟩:=hos6.bs
   injection hal with hal1 hal2 hal3
   subst hal1 hal3
   subst hal2
   have hBs6' : Bs w6 al m.state.length ct (stBytes T Sn now):=by rw [<- HX.out.2.2.1.st]; exact hBs6
   have HLD:=qh (stload_any al m.state.length ct w6 T Sn now c HX.out.2.2.1.tr hc HX.out.2.2.1.shut HX.out.2.2.1.sn HX.out.2.2.1.nw hBs6' (by have:=HX.out.2.2.1.room; have:=HFI.out; unfold big; omega))
   have H6:=qh (aI hw6 (aI hN6 (aI hz6 (aI hb06 (aI (hoh.below hb6) hos6)))))
   have hwr0:=HR.out.size
   have HWR:=qh hwr0
   clear hoh hos hb5 hw6 hb6 hN6 hz6 hb06 hos6 hBs6 hBs6' HDE hwr0
   go_upto_region 10 with fail
   rw [<- H6.out.1,<- H6.out.2.1]
   go_wp2_with fail
   refine HLD.out.mono ?_
   rintro e w7 ⟨st,rfl,hSt,hb7⟩
   obtain ⟨hx1,hx2,hz6,hb06,hoh,hos⟩:=H6.out
   clear hx1 hx2
   have hb07 : Below w0.heap.size w0 w7:=hb06.trans (hb7.mono hb06.size)
   have hzR:=(hb07.block (N + 1) (ltH HW.out.2.2.2.1)).trans HW.out.2.2.2.1
   obtain ⟨q0,q1,q2,q3,q4⟩:=mk_cells ((hb7.block N6 (ltH hz6)).trans hz6)
   have z0 : w7.cell? ⟨N + 1,0,none⟩ = some (.int .u64 0):=cells_at hzR 0
   have z1 : w7.cell? ⟨N + 1,1,none⟩ = some (.int .u64 0):=cells_at hzR 1
   have z2 : w7.cell? ⟨N + 1,2,none⟩ = some (.int .i64 0):=cells_at hzR 2
   have z3 : w7.cell? ⟨N + 1,3,none⟩ = some (.slice none 0 0):=cells_at hzR 3
   have z4 : w7.cell? ⟨N + 1,4,none⟩ = some (.slice none 0 0):=cells_at hzR 4
   have f0:=frz_of hzR 0
   have f1:=frz_of hzR 1
   have f2:=frz_of hzR 2
   have f3:=frz_of hzR 3
   have f4:=frz_of hzR 4
   have hNl:=ltH hzR
   have HF:=qh (show MkOwn w7 wr.heap.size m ah ch al m.state.length ct /\ StAt w7 w6.heap.size w6.heap.size w6.heap.size st ⟨T,Sn,now,fun _ => none⟩ /\ Below w.heap.size w w7 /\ w7.heap[N + 1]? = some (.cells #[.int .u64 0,.int .u64 0,.int .i64 0,.slice none 0 0,.slice none 0 0] TMark (0,0)) /\ w.heap.size <= w6.heap.size from
    ⟨⟨hoh.below hb7,hos.below hb7⟩,hSt,HW.out.2.1.trans (hb07.mono HW.out.2.1.size),hzR,Nat.le_trans HW.out.2.1.size hb06.size⟩)
   clear hz6 hb06 hoh hos hb07 hzR hSt hb7 HLD
   go_wp2_with fail
   refine bodyPost_ret (v:=.tuple #[.agg #[.int .u64 (m.gen : Int),.int .u64 (m.seq : Int),.int .i64 m.seg,.slice ah 32 ch,.slice al m.state.length ct],.pointer (some ⟨st,0,none⟩),.bool true]) (by simp [results,Tryz.results156,go_sem,z0,z1,z2,z3,z4]) rfl ?_
   obtain ⟨h1,h2,h3,h4,h5⟩:=HF.out
   have hch:=chg5 w7 (N + 1) (.int .u64 (m.gen : Int)) (.int .u64 (m.seq : Int)) (.int .i64 m.seg) (.slice ah 32 ch) (.slice al m.state.length ct)
   have hNw:=HW.out.2.2.2.2
   have hwr:=Nat.le_trans HW.out.2.1.size HWR.out
   refine ⟨⟨ah,ch,al,m.state.length,ct,st,rfl,⟨(own_set hch h4 (by decide) h1.1).base hwr,(own_set hch h4 (by decide) h1.2).base hwr⟩,?_⟩,h3.trans (hch.below h3.size (fun x _ e => by omega))⟩
   have hal : AlienS w7 (N + 1):=⟨fun C ty fr hC => by rw [h4] at hC; injection hC with hC; injection hC with _ hC; subst hC; exact ⟨by decide,by decide,by decide,by decide,by decide,by decide,by decide⟩,fun es cl hC => by rw [h4] at hC; injection hC with hC; cases hC⟩
   exact ((h2.any0 (C':=w7.heap.size) HX.out.2.2.1.sn.no (fun _ => rfl) h5 h5).alien hch (fun x _ e => .inr (by rw [e]; exact hal))).any0 HX.out.2.2.1.sn.no (fun _ => rfl) (Nat.le_refl _) (Nat.le_refl _)
structure PtV where
 m : Mk
 T : Tr
 S : SnS
 now : Nat
def PtV.Good (P : PtV) (g : Int) (pn c : Nat) : Prop:=PtGood g pn c P.m P.T P.S P.now
def PtV.st (P : PtV) : StM:=⟨P.T,P.S,P.now,fun _ => none⟩
def newerP (P0 P1 : PtV) : PtV:=if P1.m.gen <= P0.m.gen then P0 else P1
def PtAt (w : World) (B : Nat) (P : PtV) (ah : Option Addr) (ch : Nat) (al : Option Addr) (lt ct st : Nat) : Prop:=MkOwn w B P.m ah ch al lt ct /\ StAt w B B B st P.st
theorem PtAt.below {w w' : World} {B : Nat} {P : PtV} {ah al : Option Addr} {ch lt ct st : Nat} (h : PtAt w B P ah ch al lt ct st) (hB : B <= w.heap.size) (hb : Below w.heap.size w w') : PtAt w' B P ah ch al lt ct st :=
 ⟨⟨h.1.1.below hb,h.1.2.below hb⟩,h.2.below hB hb⟩
theorem PtAt.base {w : World} {B B' : Nat} {P : PtV} {ah al : Option Addr} {ch lt ct st : Nat} (h : PtAt w B P ah ch al lt ct st) (h0 : P.S.l = []) (hB : B' <= B) : PtAt w B' P ah ch al lt ct st :=
 ⟨⟨h.1.1.base hB,h.1.2.base hB⟩,h.2.any0 h0 (fun _ => rfl) hB hB⟩
theorem PtAt.set {w w' : World} {B N : Nat} {P : PtV} {ah al : Option Addr} {ch lt ct st : Nat} {C : Array Value} (h : PtAt w B P ah ch al lt ct st) (h0 : P.S.l = []) (hz : w.heap[N]? = some (.cells C TMark (0,0))) (hc : Chg (fun k => k = N) w w') : PtAt w' B P ah ch al lt ct st:=by
 have hal : AlienS w N:=⟨fun C ty fr hC => by rw [hz] at hC; injection hC with hC; injection hC with _ hC; subst hC; exact ⟨by decide,by decide,by decide,by decide,by decide,by decide,by decide⟩,fun es cl hC => by rw [hz] at hC; injection hC with hC; cases hC⟩
 exact ⟨⟨own_set hc hz (by decide) h.1.1,own_set hc hz (by decide) h.1.2⟩,((h.2.any0 (C':=w.heap.size) h0 (fun _ => rfl) (Nat.le_refl _) (Nat.le_refl _)).alien hc (fun x _ e => .inr (by rw [e]; exact hal))).any0 h0 (fun _ => rfl) (Nat.le_refl _) (Nat.le_refl _)⟩
def mkV (m : Mk) (ah : Option Addr) (ch : Nat) (al : Option Addr) (lt ct : Nat) : Value:=.agg #[.int .u64 (m.gen : Int),.int .u64 (m.seq : Int),.int .i64 m.seg,.slice ah 32 ch,.slice al lt ct]
def mkA (m : Mk) (ah : Option Addr) (ch : Nat) (al : Option Addr) (lt ct : Nat) : Array Value:=#[.int .u64 (m.gen : Int),.int .u64 (m.seq : Int),.int .i64 m.seg,.slice ah 32 ch,.slice al lt ct]
theorem mkA_cells {w : World} {N : Nat} {m : Mk} {ah al : Option Addr} {ch lt ct : Nat} (h : w.heap[N]? = some (.cells (mkA m ah ch al lt ct) TMark (0,0))) :
  w.cell? ⟨N,0,none⟩ = some (.int .u64 (m.gen : Int)) /\ w.cell? ⟨N,1,none⟩ = some (.int .u64 (m.seq : Int)) /\ w.cell? ⟨N,2,none⟩ = some (.int .i64 m.seg) /\ w.cell? ⟨N,3,none⟩ = some (.slice ah 32 ch) /\ w.cell? ⟨N,4,none⟩ = some (.slice al lt ct):=mk_cells h
theorem mnewest_ok {w : World} {d sb mb n : Nat} {S : List UInt8} (hD : Dk w d sb mb n S nM) (s g : Int) (pn c : Nat) (hp : isPlan s pn g) (hn : 1 + 2 * pn <= n) (P0 P1 : PtV) (hg0 : P0.Good g pn c) (hg1 : P1.Good g pn c) (hc : c <= 60000) (hc0 : catS S nM 1 pn = ptBytes pn P0.m) (hc1 : catS S nM (1 + pn) pn = ptBytes pn P1.m) :
  Calls Tryz.prog 84 #[.pointer (some ⟨d,0,none⟩),.agg #[.int .i64 s,.int .i64 (pn : Int),.int .i64 g]] w fun e w' =>
   (∃ ah ch al lt ct st,e = .returned (.tuple #[mkV (newerP P0 P1).m ah ch al lt ct,.pointer (some ⟨st,0,none⟩),.bool true]) /\ PtAt w' w.heap.size (newerP P0 P1) ah ch al lt ct st) /\ Below w.heap.size w w':=by
 obtain ⟨w0,hw0⟩:=qnm ((w.alloc (.cells #[.int .i64 s,.int .i64 (pn : Int),.int .i64 g] TPlan)).alloc (.cells #[.int .u64 0,.int .u64 0,.int .i64 0,.slice none 0 0,.slice none 0 0] TMark))
 have hb0 : Below w.heap.size w w0:=by rw [hw0]; exact (((Ext.refl w).alloc _).alloc _).1
 have hzp : w0.heap[w.heap.size]? = some (.cells #[.int .i64 s,.int .i64 (pn : Int),.int .i64 g] TPlan (0,0)):=by rw [hw0]; exact (Below.heap_alloc _ _ _ (by simp)).trans (heap_alloc_new w _)
 have hzm : w0.heap[w.heap.size + 1]? = some (.cells #[.int .u64 0,.int .u64 0,.int .i64 0,.slice none 0 0,.slice none 0 0] TMark (0,0)):=by
  rw [hw0]
  have:=heap_alloc_new (w.alloc (.cells #[.int .i64 s,.int .i64 (pn : Int),.int .i64 g] TPlan)) (.cells #[.int .u64 0,.int .u64 0,.int .i64 0,.slice none 0 0,.slice none 0 0] TMark)
  rwa [World.size_alloc] at this
 obtain ⟨N,hN⟩:=qnm w.heap.size
 rw [<- hN] at hzp hzm
 have h0:=mpoint_ok (hD.below hb0) s g pn 0 c hp (by omega) hn P0.m P0.T P0.S P0.now hg0 hc (by rw [Nat.zero_mul]; exact hc0)
 have h1:=fun W (hb : Below w.heap.size w W) => mpoint_ok (hD.below hb) s g pn 1 c hp (by omega) hn P1.m P1.T P1.S P1.now hg1 hc (by rw [Nat.one_mul]; exact hc1)
 rw [show ((0 : Nat) : Int) = 0 from rfl] at h0
 simp only [show ((1 : Nat) : Int) = 1 from rfl] at h1
 have HP0:=qh h0
 have HP1:=qh h1
 have HS:=qh (aI hg0.sn.no hg1.sn.no)
 have HW:=qh (aI hw0 (aI hb0 (aI hzp (aI hzm hN))))
 clear hD hp hg0 hg1 hc0 hc1 hn h0 h1 hw0 hb0 hzp hzm hN
 obtain ⟨p0,p1,p2⟩:=pl_cells HW.out.2.2.1
 go_enter Tryz.func84,Tryz.ntmps84
 go_upto_region 1 with fail
 rw [<- HW.out.1,<- HW.out.2.2.2.2]
 go_wp2_with fail
 refine HP0.out.mono ?_
 rintro e w1 ⟨⟨ah,ch,al,lt,ct,st,rfl,ho1,hs1⟩,hb1⟩
 obtain ⟨w2,hw2⟩:=qnm (w1.alloc (.cells (mkA P0.m ah ch al lt ct) TMark))
 have hb2:=qba hw2
 obtain ⟨N2,hN2⟩:=qnm w1.heap.size
 have hz2 : w2.heap[N2]? = some (.cells (mkA P0.m ah ch al lt ct) TMark (0,0)):=by rw [hw2,hN2]; exact heap_alloc_new w1 _
 have hb02 : Below w0.heap.size w0 w2:=hb1.trans (hb2.mono hb1.size)
 have hA2 : PtAt w2 w0.heap.size P0 ah ch al lt ct st:=PtAt.below ⟨ho1,hs1⟩ hb1.size hb2
 obtain ⟨p0,p1,p2⟩:=pl_cells ((hb02.block N (ltH HW.out.2.2.1)).trans HW.out.2.2.1)
 have H2:=qh (aI hb02 (aI hz2 hA2))
 have HC2:=qh (HP1.out w2 (HW.out.2.1.trans (hb02.mono HW.out.2.1.size)))
 have HW2:=qh (aI hw2 hN2)
 unfold mkA at hw2
 have HW2':=qh hw2
 clear ho1 hs1 hb1 hw2 hb2 hN2 hz2 hb02 hA2 HP0
 go_upto_region 2 with fail
 rw [<- HW2'.out,<- HW2.out.2]
 go_wp2_with fail
 refine HC2.out.mono ?_
 rintro e w3 ⟨⟨bh,dh,bl,mt,dt,su,rfl,ho3,hs3⟩,hb3⟩
 obtain ⟨w4,hw4⟩:=qnm (w3.alloc (.cells (mkA P1.m bh dh bl mt dt) TMark))
 have hb4:=qba hw4
 obtain ⟨N4,hN4⟩:=qnm w3.heap.size
 have hz4 : w4.heap[N4]? = some (.cells (mkA P1.m bh dh bl mt dt) TMark (0,0)):=by rw [hw4,hN4]; exact heap_alloc_new w3 _
 have hb24 : Below w2.heap.size w2 w4:=hb3.trans (hb4.mono hb3.size)
 obtain ⟨hb02,hz2,hA2⟩:=H2.out
 have hA4 : PtAt w4 w2.heap.size P1 bh dh bl mt dt su:=PtAt.below ⟨ho3,hs3⟩ hb3.size hb4
 have hB4 : PtAt w4 w0.heap.size P0 ah ch al lt ct st:=hA2.below hb02.size hb24
 obtain ⟨q0,q1,q2,q3,q4⟩:=mkA_cells ((hb24.block N2 (ltH hz2)).trans hz2)
 obtain ⟨r0,r1,r2,r3,r4⟩:=mkA_cells hz4
 have hne:=fun W => newer_any P0.m P1.m ah al bh bl 32 lt 32 mt ch ct dh dt true true W
 simp only [true_and,Bool.true_eq_false,false_or,if_true,Bool.or_true] at hne
 obtain ⟨kk,hkk⟩ : ∃ kk : Int,kk = if P1.m.gen <= P0.m.gen then 0 else 1:=⟨_,rfl⟩
 rw [<- hkk] at hne
 have HKK:=qh hkk
 have HNE:=qh hne
 clear hne hkk
 have hb04:=hb02.trans (hb24.mono hb02.size)
 have H4:=qh (aI hb04 (aI hA4 (aI hB4 (aI ((hb24.block N2 (ltH hz2)).trans hz2) (aI hz4 (aI hb02.size hb24.size))))))
 have HW4:=qh (aI hw4 hN4)
 unfold mkA at hw4
 have HW4':=qh hw4
 clear ho3 hs3 hb3 hw4 hb4 hN4 hz4 hb24 hb02 hz2 hA2 hA4 hB4 hb04 HC2 H2
 go_upto_region 3 with fail
 rw [<- HW4'.out,<- HW4.out.2]
 go_wp2_with fail
 refine (HNE.out w4).mono ?_
 rintro e w5 ⟨rfl,hb5⟩
 obtain ⟨hb04,hA4,hB4,hz2,hz4,hs2,hs24⟩:=H4.out
 have hb05:=hb04.trans (hb5.mono hb04.size)
 have hzR:=(hb05.block (N + 1) (ltH HW.out.2.2.2.1)).trans HW.out.2.2.2.1
 obtain ⟨q0,q1,q2,q3,q4⟩:=mkA_cells ((hb5.block N2 (ltH hz2)).trans hz2)
 obtain ⟨r0,r1,r2,r3,r4⟩:=mkA_cells ((hb5.block N4 (ltH hz4)).trans hz4)
 have z0 : w5.cell? ⟨N + 1,0,none⟩ = some (.int .u64 0):=cells_at hzR 0
 have z1 : w5.cell? ⟨N + 1,1,none⟩ = some (.int .u64 0):=cells_at hzR 1
 have z2 : w5.cell? ⟨N + 1,2,none⟩ = some (.int .i64 0):=cells_at hzR 2
 have z3 : w5.cell? ⟨N + 1,3,none⟩ = some (.slice none 0 0):=cells_at hzR 3
 have z4 : w5.cell? ⟨N + 1,4,none⟩ = some (.slice none 0 0):=cells_at hzR 4
 have f0:=frz_of hzR 0
 have f1:=frz_of hzR 1
 have f2:=frz_of hzR 2
 have f3:=frz_of hzR 3
 have f4:=frz_of hzR 4
 have hNl:=ltH hzR
 have hw0s:=HW.out.2.1.size
 have HF:=qh (show PtAt w5 w.heap.size P0 ah ch al lt ct st /\ PtAt w5 w.heap.size P1 bh dh bl mt dt su /\ Below w.heap.size w w5 /\ w5.heap[N + 1]? = some (.cells #[.int .u64 0,.int .u64 0,.int .i64 0,.slice none 0 0,.slice none 0 0] TMark (0,0)) from
  ⟨(hB4.below hb04.size hb5).base HS.out.1 hw0s,(hA4.below hs24 hb5).base HS.out.2 (by omega),HW.out.2.1.trans (hb05.mono hw0s),hzR⟩)
 clear hb04 hA4 hB4 hz2 hz4 hs2 hs24 hb05 hzR hb5 hw0s
 have hkk:=HKK.out
 by_cases hle : P1.m.gen <= P0.m.gen
 ·rw [if_pos hle] at hkk
  subst hkk
  go_wp2_with fail
  refine bodyPost_ret (v:=.tuple #[mkV P0.m ah ch al lt ct,.pointer (some ⟨st,0,none⟩),.bool true]) (by simp [results,Tryz.results84,go_sem,mkV,z0,z1,z2,z3,z4]) rfl ?_
  obtain ⟨g1,g2,g3,g4⟩:=HF.out
  have hch:=chg5 w5 (N + 1) (.int .u64 (P0.m.gen : Int)) (.int .u64 (P0.m.seq : Int)) (.int .i64 P0.m.seg) (.slice ah 32 ch) (.slice al lt ct)
  have hNw:=HW.out.2.2.2.2
  rw [show newerP P0 P1 = P0 from if_pos hle]
  exact ⟨⟨ah,ch,al,lt,ct,st,rfl,PtAt.set g1 HS.out.1 g4 hch⟩,g3.trans (hch.below g3.size (fun k _ e => by omega))⟩
 ·rw [if_neg hle] at hkk
  subst hkk
  go_wp2_with fail
  refine bodyPost_ret (v:=.tuple #[mkV P1.m bh dh bl mt dt,.pointer (some ⟨su,0,none⟩),.bool true]) (by simp [results,Tryz.results84,go_sem,mkV,z0,z1,z2,z3,z4]) rfl ?_
  obtain ⟨g1,g2,g3,g4⟩:=HF.out
  have hch:=chg5 w5 (N + 1) (.int .u64 (P1.m.gen : Int)) (.int .u64 (P1.m.seq : Int)) (.int .i64 P1.m.seg) (.slice bh 32 dh) (.slice bl mt dt)
  have hNw:=HW.out.2.2.2.2
  rw [show newerP P0 P1 = P1 from if_neg hle]
  exact ⟨⟨bh,dh,bl,mt,dt,su,rfl,PtAt.set g2 HS.out.2 g4 hch⟩,g3.trans (hch.below g3.size (fun k _ e => by omega))⟩
theorem grow0_any (w : World) : Calls Tryz.prog 159 #[.slice none 0 0,.int .i64 0] w fun e w' => e = .returned (.slice none 0 0) /\ w' = w:=by
 go_enter Tryz.func159,Tryz.ntmps159
 go_wp2_with fail
 go_ret
 exact ⟨rfl,rfl⟩
theorem concat0_any (w : World) : Calls Tryz.prog 87 #[.slice none 0 0] w fun e w' => e = .returned (.slice none 0 0) /\ Below w.heap.size w w':=by
 have HG:=qh (grow0_any w)
 go_enter Tryz.func87,Tryz.ntmps87
 go_wp2_with fail
 go_loopw [3,5,11] (fun n _ i wr => n = .int .i64 0 /\ i = .int .i64 0 /\ wr = w) (fun _ _ _ _ => 0)
 case atStart => exact ⟨rfl,rfl,rfl⟩
 case round =>
  obtain ⟨rfl,rfl,rfl⟩:=hrel
  go_wp2_with fail
  refine (HG.out).mono ?_
  rintro e w' ⟨rfl,rfl⟩
  go_wp2_with fail
  go_loopw [6,8,27] (fun n _ i wr => n = .slice none 0 0 /\ i = .int .i64 0 /\ wr = w') (fun _ _ _ _ => 0)
  case atStart => exact ⟨rfl,rfl,rfl⟩
  case round =>
   obtain ⟨rfl,rfl,rfl⟩:=hrel
   go_wp2_with fail
   go_ret
   exact ⟨rfl,Below.refl _ _⟩
end
end Go.Proofs.YtabdcphioccgnaaGreatDoor
