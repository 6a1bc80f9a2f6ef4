/- LogAppG; VBegin; VOpen. -/
import Derived.Test.YtbemfdcjieakdaaGreatDoorK37
set_option maxRecDepth 100000
set_option maxHeartbeats 8000000
namespace Go.Proofs.YtbemfdcjieakdaaGreatDoor
section
open Go.RowKit Go.ChangeMaps Go.MapKept
variable {w : World} {B l d : Nat} {s p g : Int} {hv wv : Value} {M : LogM}
def b0L(w W:World)(f pn e:Nat)(S c:List UInt8)(M d:LogM)(hv wv a b:Value):Prop:=(d=M/\c=S/\Below w.heap.size w W/\a=hv/\b=wv)∨(M.wait≠[]/\(M.sealed:Int)<(e:Int)/\d=sealM M/\∀j,j<f->secOf c j=sect S (layM nM (1+2 * pn+M.sealed * 8) (segBytes M.sealed M.next M.head M.wait) 8) j)
def b44(w:World)(B l d sb mb f pn g:Nat)(S:List UInt8)(hv wv:Value)(M:LogM)(N k q m i:Nat)(a:Option Addr)(ys:List UInt8)(W:World):Prop:=
 ∃c b e h,Chg (fun k=>k=l∨k=d∨k=sb∨k=mb) w W/\LogIn W B l d (f:Int) (pn:Int) (g:Int) c b e/\Dk W d sb mb f h nM/\b0L w W f pn g S h M e hv wv c b/\a3p e.wait+15+m<=942/\(e.sealed:Int)<(g:Int)/\
  W.heap[N]? =some (.cells #[.int .i64 (k:Int),.int .u64 (q:Int),.slice a m i] a2U (0,0))/\w.heap.size<=W.heap.size/\Bs W a m i ys/\(∀x,b.ownBlock=some x->x<w.heap.size)
def b0M(w:World)(B l d sb mb h pn g:Nat)(S:List UInt8)(hv wv:Value)(M:LogM)(k q m:Nat)(ys:List UInt8)(e:Ending)(w':World):Prop:=
 (∃f:Nat,f≠0/\e= .returned (.int .i64 (f:Int))/\Below w.heap.size w w'/\(g:Int) - (M.sealed:Int)<=1)∨
 (e= .returned (.int .i64 0)/\∃W b c a j,Chg (fun k=>k=l∨k=d∨k=sb∨k=mb) w W/\LogIn W B l d (h:Int) (pn:Int) (g:Int) b c a/\Dk W d sb mb h j nM/\b0L w W h pn g S j M a hv wv b c/\a3p a.wait+15+m<=942/\(a.sealed:Int)<(g:Int)/\
  ∃i n,n.core=((k:Int),q,ys)/\LogIn w' B l d (h:Int) (pn:Int) (g:Int) b i ⟨a.sealed,a.head,a.next,a.wait ++[n]⟩/\Chg (fun k=>k=l∨c.ownBlock=some k) W w')
theorem b1t{w2 W:World}{v:Value}{k q m j n A z:Nat}{a:Option Addr}{ys:List UInt8}(h:LogIn w B l d s p g hv wv M)(t:Bs w a m j ys)
  (i:fitsN 942 (M.wait ++[⟨(k:Int),q,a,m,j,ys⟩])=A) (H:M.wait.length=n) (J:n<=1000) (P:q<18446744073709551616)
  (b:W.ownsRow w2.heap.size a2U 3 v M.wait.length (rcs M.wait)) (K:W.heap[z]? =some (.cells #[.int .i64 (k:Int),.int .u64 (q:Int),.slice a m j] a2U (0,0))) (u:w2.heap.size<=W.heap.size):
  ∃o w',(Builtin.append_ #[a4r,a4r] a4r #[v,.slice (some ⟨z,0,none⟩) 1 1]).run Tryz.prog W= .ok o w'/\W.grownBy w' v.ownBlock/\
   (Below w2.heap.size W w'->Below w.heap.size w w'->Calls Tryz.prog 101 #[o] w' fun e x=>e= .returned (.int .i64 (A:Int))/\Below w'.heap.size w' x):=by
 obtain⟨o,w',E,N,h3⟩:=a5b (W:=W) w2.heap.size v M.wait b ⟨(k:Int),q,a,m,j,ys⟩ z K a4r (by omega) u;refine⟨o,w',E,h3,fun hb2 f=>?_⟩;obtain⟨F,c,rfl,I⟩:=a96 (n:=n+1) N (fun r b=>by
  rcases List.mem_append.1 b with b | b
  ·obtain⟨C,G,O⟩:=h.wt.2 r b;obtain⟨Q,R,e,y⟩:=(O.below f).bsn G;injection e with D _ L
   rw[D,L];exact⟨C,y⟩
  ·obtain rfl:r=_:=AQ.1 b;exact⟨P,t.below f⟩) (by simp[H])
 have:=b1j F (n+1) c _ w' I (by omega);rw[i] at this;exact this
theorem a7M{sb mb Y:Nat}{S:List UInt8}{pn Z:Nat}(h:LogIn w B l d (Y:Int) (pn:Int) (Z:Int) hv wv M)(hD:Dk w d sb mb Y S nM)(hd:d<B)(ak:sb<B)(a9:mb<B)(hl:B<=l)(X:B<=w.heap.size)(hp:isPlan (Y:Int) (pn:Int) (Z:Int))(ok:LogOk (Z:Int) M)(ae:1+2 * pn+Z * 8<=Y)(k q m J:Nat)(a:Option Addr)(ys:List UInt8)(hq:q=M.next+M.wait.length)(hn:M.next+M.wait.length<=1099511627776)(L:a1Z (k:Int) q m)(al:m<=900)(E:Bs w a m J ys)(a4:∀ad,a=some ad->ad.block≠l/\ad.block≠d/\ad.block≠sb/\ad.block≠mb):
  Calls Tryz.prog 40 #[.pointer (some ⟨l,0,none⟩),.agg #[.int .i64 (k:Int),.int .u64 (q:Int),.slice a m J]] w fun e w'=>b0M w B l d sb mb Y pn Z S hv wv M k q m ys e w':=by
 obtain⟨s,hs⟩:∃s:Int,s=(Y:Int):=⟨_,rfl⟩
 obtain⟨p,Q⟩:∃p:Int,p=(pn:Int):=⟨_,rfl⟩
 obtain⟨g,H⟩:∃g:Int,g=(Z:Int):=⟨_,rfl⟩
 have hg:0<=g/\g<=65535:=by rw[H];exact⟨ok.g1,ok.g2⟩
 have bM:(M.sealed:Int)<=g:=by rw[H];exact ok.sl
 have az:=ok.few;have c:=qh (aI hD (aI hd (aI ak (aI a9 (aI hl (aI hp (aI ok (aI ae (aI al (aI a4 (aI hs (aI Q H))))))))))));rw[<-hs,<-Q,<-H] at h;clear hD hd ak a9 hl hp ae al a4 hs Q H;obtain⟨n,I⟩:∃n,M.wait.length=n:=⟨_,rfl⟩
 obtain⟨wa,u,rfl,bR⟩:=h.wt.recs I;obtain⟨w0,aF⟩:=qnm (w.alloc (.cells #[.int .i64 (k:Int),.int .u64 (q:Int),.slice a m J] a2U));have hb0:=qba aF;have b6:w0.heap[w.heap.size]? =some (.cells #[.int .i64 (k:Int),.int .u64 (q:Int),.slice a m J] a2U (0,0)):=by rw[aF];exact Ae w _
 obtain⟨N,hN⟩:=qnm w.heap.size;rw[<-hN] at b6;have bn:=L.2.1;have bN:=E.1;have aS:M.sealed<=65535:=by omega
 have hA0:AppS w0 l d s p g M.sealed M.next hv (.slice wa n u) N (k:Int) q (.slice a m J):=⟨(hb0.block l h.lt).trans h.cel,b6⟩
 obtain⟨n1,j⟩:∃n1,fitsN 942 (M.wait ++[⟨(k:Int),q,a,m,J,ys⟩])=n1:=⟨_,rfl⟩
 obtain⟨ff,bK⟩:=qnm (decide (n<n1));have HS:=qh (aI h (aI X (aI L (aI E (aI j I)))));have b0:=qh bK;have HQ:=qh (aI hq (aI hn az));have t:=qh (aI aF (aI hb0 (aI hN hA0)));have aZ:=qh (fun W=>a15 (k:Int) q a m J W);rw[AB L] at aZ;have aW:=qh (fun W (hb:Below w.heap.size w W)=>a4S (h.below hb) (by omega));rw[<-hq] at aW;have aG:=qh (fun W (hb:Below w.heap.size w W)=>b30 (h.below hb) hg aS);obtain⟨sl,b5⟩:=qnm M.sealed;rw[<-b5] at aG hA0;have aD:=qh b5;clear h hq hn L E j I aF hb0 b6 hN bn aS bR X b5 bN bK ok hg bM az;go_enter Tryz.func40,Tryz.ntmps40;go_upto_region 1 with fail
 rw[<-t.out.1,<-t.out.2.2.1];refine a0h (fun i=>[0,1,2,3,4,5,6,7,8,9].contains i) (fun w'=>w'.cell? ⟨l,7,none⟩=some (.slice wa n u)/\w'.cell? ⟨N,0,none⟩=some (.int .i64 (k:Int))/\w'.cell? ⟨N,1,none⟩=some (.int .u64 (q:Int))/\w'.cell? ⟨N,2,none⟩=some (.slice a m J)) (by kernel_rfl) ?_ (fun hHeld=>?_)
 ·exact hA0.cells
 refine qtk 0 6 ?_;refine qone 1 fun K hK=>?_
 go_simp;refine(aZ.out _).mono ?_;rintro e w1 ⟨rfl,hb1⟩;have a0:Below w0.heap.size w0 w1:=(Ab _ _).drew.trans hb1;have hHeld:=(t.out.2.2.2.below a0).cells;have bI:=qh (aW.out w1 (t.out.2.1.trans (a0.mono t.out.2.1.size)));have aX:=qh a0;clear hb1 a0;go_wp2_with fail;refine hK.out _ _ (fun _=>hHeld) ?_;clear hK K;refine qtk 2 8 ?_;refine qtk 3 9 ?_;refine qtk 4 10 ?_;refine qtk 5 11 ?_;refine qtk 6 12 ?_;refine qone 7 fun K hK=>?_
 go_simp;refine(bI.out).mono ?_;rintro e w2 ⟨rfl,hb2⟩;have ao:Below w0.heap.size w0 w2:=aX.out.trans (hb2.mono aX.out.size);have bl:=qh (aI (t.out.2.2.2.below ao) ao);have hHeld:=bl.out.1.cells;clear hb2 ao bI aX;go_wp2_with fail;refine hK.out _ _ (fun _=>hHeld) ?_;clear hK K;refine qtk 8 14 ?_;refine qtk 9 15 ?_;refine qdon ?_;clear hHeld aZ aW hA0;obtain⟨hA2,hb2⟩:=bl.out;have aO:Below w.heap.size w w2:=t.out.2.1.trans (hb2.mono t.out.2.1.size);have c1:((q:Int) != (q:Int))=false:=bne_self_eq_false _;have bC:=qh aO;clear hb2 aO;go_upto_region 3 with fail
 go_cut [5] (fun v wx=>v= .bool ff/\AppS wx l d s p g M.sealed M.next hv (.slice wa n u) N (k:Int) q (.slice a m J)/\Below w.heap.size w wx);case first=>
  obtain⟨h,X,L,E,j,I⟩:=HS.out;obtain⟨hq,hn,az⟩:=HQ.out;have c5:decide (n<n1)=ff:=b0.out.symm;have a5:Below w2.heap.size w2 w2.drew:=(Ab _ _).drew;have an:=hA2.below a5;have ap:Below w.heap.size w w2.drew:=bC.out.drew;have r:=qh (aI h (aI E (aI j (aI I (aI (show n<=1000 by omega) (show q<18446744073709551616 by omega))))));have b3:=qh (aI an ap);have ai:=qh (a7h w2.drew ((h.below bC.out).wt.below a5) (by omega));clear h X L E j I hq hn az a5 ap;refine a0h (fun i=>[0,1,2,3,4,5,6,7,8,9,10,11,12,13,14,15].contains i) (fun w'=>w'.cell? ⟨l,7,none⟩=some (.slice wa n u)/\w'.cell? ⟨N,0,none⟩=some (.int .i64 (k:Int))/\w'.cell? ⟨N,1,none⟩=some (.int .u64 (q:Int))/\w'.cell? ⟨N,2,none⟩=some (.slice a m J)) (by kernel_rfl) ?_ (fun hHeld=>?_)
  ·exact an.cells
  clear an hA2;obtain⟨wd,bG⟩:=qnm w2.drew;rw[<-bG] at hHeld b3 ai⊢;clear bG;refine qtk 0 16 ?_;refine qtk 1 17 ?_;refine qtk 2 18 ?_;refine qtk 3 19 ?_;refine qtk 5 21 ?_;refine qtk 9 25 ?_;refine qtk 10 26 ?_;refine qtk 11 27 ?_;refine qtk 12 28 ?_;refine qtk 13 29 ?_;refine a0J 4 6 (by kernel_rfl) rfl rfl (fun K hK=>?_) (fun K hK=>?_)
  ·go_simp;refine ai.out.mono ?_;rintro e w3 ⟨v3,rfl,bF,hb3⟩;obtain⟨ca,cl,cc,rfl⟩:=a1s bF;obtain⟨F,b⟩:=b3.out;have hA3:=F.below hb3;have hHeld:=hA3.cells;go_wp2_with fail;refine hK.out _ _ (fun _=>hHeld) ?_;clear hK K;refine qone 6 fun K hK=>?_
   go_simp;obtain⟨w4,aH⟩:=qnm (w3.alloc (.cells #[.int .i64 (k:Int),.int .u64 (q:Int),.slice a m J] a2U));have a3:=qba aH;have aV:w4.heap[w3.heap.size]? =some (.cells #[.int .i64 (k:Int),.int .u64 (q:Int),.slice a m J] a2U (0,0)):=by rw[aH];exact Ae w3 _
   have hA4:=hA3.below a3;have hHeld:=hA4.cells;rw[<-aH];refine hK.out _ _ (fun _=>hHeld) ?_;clear hK K aH;have a6:=a1t bF a3;have hb4:Below wd.heap.size wd w4:=hb3.trans (a3.mono hb3.size);obtain⟨v5,w5,ah,am,ag⟩:=b1t (w2:=wd) (W:=w4) r.out.1 r.out.2.1 r.out.2.2.1 r.out.2.2.2.1 r.out.2.2.2.2.1 r.out.2.2.2.2.2 a6 aV hb4.size;refine qone 7 fun K hK=>?_
   refine a0D (by rfl) _ _ a4r rfl _ _ _ (by rfl) (by rfl) ah ?_;have G:Below wd.heap.size w4 w5:=(Ab _ _).grown am hb4.size (fun x hx=>(A8 a6 x hx).1) |> fun h=>⟨h.os,h.tape,h.output,h.size,h.block⟩
   have f:Below wd.heap.size wd w5:=hb4.trans G;have hA5:=F.below f;have hHeld:=hA5.cells;refine hK.out _ _ (fun _=>hHeld) ?_;clear hK K;refine qone 8 fun K hK=>?_
   go_simp;refine(ag G (b.trans (f.mono b.size))).mono ?_;rintro e w6 ⟨rfl,hb6⟩;have hA6:=hA5.below hb6;have hHeld:=hA6.cells;have HM:=qh (aI hA6 ((b.trans (f.mono b.size)).trans (hb6.mono (b.trans (f.mono b.size)).size)));go_wp2_with fail;refine hK.out _ _ (fun _=>hHeld) ?_;clear hK K hA6 hA5 f G hb6 ag ah am F b;refine qtk 14 30 ?_;refine qtk 15 5 ?_;refine qdon ?_;go_wp2_with fail;go_meet;exact⟨rfl,HM.out.1,HM.out.2⟩
  ·go_simp;obtain⟨F,b⟩:=b3.out;obtain⟨w3,aC⟩:=qnm (wd.alloc (.cells #[.int .i64 (k:Int),.int .u64 (q:Int),.slice a m J] a2U));have hb3:=qba aC;have bw:w3.heap[wd.heap.size]? =some (.cells #[.int .i64 (k:Int),.int .u64 (q:Int),.slice a m J] a2U (0,0)):=by rw[aC];exact Ae wd _
   have hA3:=F.below hb3;have hHeld:=hA3.cells;rw[<-aC];refine hK.out _ _ (fun _=>hHeld) ?_;clear hK K aC;have bx:=a7h w3 ((r.out.1.below (b.trans (hb3.mono b.size))).wt) (by have:=r.out;omega);refine qone 4 fun K hK=>?_
   go_simp;refine bx.mono ?_;rintro e w4 ⟨v4,rfl,aU,ac⟩;obtain⟨ca,cl,cc,rfl⟩:=a1s aU;have aV:=(ac.block _ (ltH bw)).trans bw;have hA4:=hA3.below ac;have hHeld:=hA4.cells;go_wp2_with fail;refine hK.out _ _ (fun _=>hHeld) ?_;clear hK K bx;have hb4:Below wd.heap.size wd w4:=hb3.trans (ac.mono hb3.size);have a6:=a84 aU hb3.size;obtain⟨v5,w5,ah,am,ag⟩:=b1t (w2:=wd) (W:=w4) r.out.1 r.out.2.1 r.out.2.2.1 r.out.2.2.2.1 r.out.2.2.2.2.1 r.out.2.2.2.2.2 a6 aV hb4.size;refine qone 7 fun K hK=>?_
   refine a0D (by rfl) _ _ a4r rfl _ _ _ (by rfl) (by rfl) ah ?_;have G:Below wd.heap.size w4 w5:=(Ab _ _).grown am hb4.size (fun x hx=>(A8 a6 x hx).1) |> fun h=>⟨h.os,h.tape,h.output,h.size,h.block⟩
   have f:Below wd.heap.size wd w5:=hb4.trans G;have hA5:=F.below f;have hHeld:=hA5.cells;refine hK.out _ _ (fun _=>hHeld) ?_;clear hK K;refine qone 8 fun K hK=>?_
   go_simp;refine(ag G (b.trans (f.mono b.size))).mono ?_;rintro e w6 ⟨rfl,hb6⟩;have hA6:=hA5.below hb6;have hHeld:=hA6.cells;have HM:=qh (aI hA6 ((b.trans (f.mono b.size)).trans (hb6.mono (b.trans (f.mono b.size)).size)));go_wp2_with fail;refine hK.out _ _ (fun _=>hHeld) ?_;clear hK K hA6 hA5 f G hb6 ag ah am F b;refine qtk 14 30 ?_;refine qtk 15 5 ?_;refine qdon ?_;go_wp2_with fail;go_meet;exact⟨rfl,HM.out.1,HM.out.2⟩
 case rest=>
  obtain⟨rfl,hA,b9⟩:=hcut;obtain⟨wx,rfl⟩:=qnm wc;have HA:=qh (aI hA b9);have b2:=qh (aG.out wx b9);clear hA b9 hA2;go_step;go_step;go_cut [5] (fun _ wz=>b44 w B l d sb mb Y pn Z S hv (.slice wa n u) M N k q m J a ys wz);case first=>
   go_wp2_with fail;refine b2.out.mono ?_;rintro e w4 ⟨rfl,hb4⟩;have A:=qh (aI (HA.out.1.below hb4) (HA.out.2.trans (hb4.mono HA.out.2.size)));have br:=qh (aG.out w4 A.out.2);clear hb4 b2;have ax:(sl:Int)<=g:=by
    have:=c.out.2.2.2.2.2.2.1.sl;rw[<-aD.out,<-c.out.2.2.2.2.2.2.2.2.2.2.2.2] at this;exact this
   have bk:=qh (fun(W:World) (hb:Below w.heap.size w W) (h1:g - (sl:Int)<=1)=>show b0M w B l d sb mb Y pn Z S hv (.slice wa n u) M k q m ys (.returned (.int .i64 ((15:Nat):Int))) W from .inl ⟨15,by omega,rfl,hb,by
    rw[<-aD.out,<-c.out.2.2.2.2.2.2.2.2.2.2.2.2];exact h1⟩)
   by_cases a2:g - (sl:Int)=0
   ·have bH:((g - (sl:Int)) == 0)=true:=by simp[a2]
    have HF:=qh (bk.out w4 A.out.2 (by omega));clear a2 ax;go_wp2_with fail;go_ret;exact HF.out
   ·have bH:((g - (sl:Int)) == 0)=false:=by rw[Al];exact a2
    have ay:(M.sealed:Int)<(Z:Int):=by
     rw[<-aD.out,<-c.out.2.2.2.2.2.2.2.2.2.2.2.2];omega
    have av:=qh ay;cases ff with
    | true=>
     have HM:=qh (show b44 w B l d sb mb Y pn Z S hv (.slice wa n u) M N k q m J a ys w4 from by
      obtain⟨h,X,L,E,j,I⟩:=HS.out;obtain⟨hD,hd,ak,a9,hl,hp,ok,ae,al,a4,hs,Q,H⟩:=c.out;refine⟨hv,_,M,S,Chg.of_below A.out.2 _,?_,hD.below A.out.2,.inl ⟨rfl,rfl,A.out.2,rfl,rfl⟩,?_,av.out,A.out.1.2,A.out.2.size,E.below A.out.2,fun x hx=>(h.wt.lt x hx).2⟩
      ·have:=h.below A.out.2
       rwa [hs,Q,H] at this
      ·have h1:=BD b0.out.symm;have h2:=b1k (M.wait ++[⟨(k:Int),q,a,m,J,ys⟩]) 942;rw[j,Af,A9] at h2;have h3:=(a8l (M.wait ++[⟨(k:Int),q,a,m,J,ys⟩]) 942 (by rw[j,Af,A9];omega)).2;rw[a8G] at h3;simp only at h3;omega)
     clear ay a2 ax;go_wp2_with fail;go_meet;exact HM.out
    | false=>
     go_wp2_with fail;refine br.out.mono ?_;rintro e w5 ⟨rfl,hb5⟩;have P:=qh (aI (A.out.1.below hb5) (A.out.2.trans (hb5.mono A.out.2.size)));clear hb5 br;by_cases aA:g - (sl:Int)=1
     ·have bt:((g - (sl:Int)) == 1)=true:=by simp[aA]
      have HF:=qh (bk.out w5 P.out.2 (by omega));clear aA a2 ax ay;go_wp2_with fail;go_ret;exact HF.out
     ·have bt:((g - (sl:Int)) == 1)=false:=by rw[Al];exact aA
      have aR:(M.sealed:Int)+1<(Z:Int):=by
       rw[<-aD.out,<-c.out.2.2.2.2.2.2.2.2.2.2.2.2];omega
      have aj:M.wait≠[]:=by
       obtain⟨h,X,L,E,j,I⟩:=HS.out;intro e;have h1:=of_decide_eq_false b0.out.symm;rw[e] at I;rw[e,AJ,a3l,Ah ⟨L,by have:=c.out.2.2.2.2.2.2.2.2.1;show 15+m<=942;omega⟩,a3R] at j;simp at I;omega
      have bD:=b3g (sb:=sb) (mb:=mb) (n:=Y) (S:=S) ((HS.out.1.below P.out.2)) (c.out.1.below P.out.2) c.out.2.1 c.out.2.2.1 c.out.2.2.2.1 c.out.2.2.2.2.1 (Ad HS.out.2.1 P.out.2.size) (by obtain⟨hD,hd,ak,a9,hl,hp,ok,ae,al,a4,hs,Q,H⟩:=c.out;rw[hs,Q,H];exact hp) (by have:=c.out.2.2.2.2.2.2.2.2.2.2.2.2;rw[this];exact c.out.2.2.2.2.2.2.1) (by have:=c.out.2.2.2.2.2.2.2.2.2.2.2.2;rw[this];exact av.out) aj (1+2 * pn+M.sealed * 8) (by have:=c.out.2.2.2.2.2.2.2.2.2.2.2.1;rw[this];push_cast;rfl) (by have h1:=av.out;have h2:=c.out.2.2.2.2.2.2.2.1;omega);have bL:=qh bD;have bB:=qh (aI aR aj);clear bD aR aj aA a2 ax ay;go_wp2_with fail;refine bL.out.mono ?_;rintro e w6 ⟨rfl,⟨bV,a1⟩,⟨S6,ab,bo⟩,o⟩;have HM:=qh (show b44 w B l d sb mb Y pn Z S hv (.slice wa n u) M N k q m J a ys w6 from by
       obtain⟨h,X,L,E,j,I⟩:=HS.out;obtain⟨hD,hd,ak,a9,hl,hp,ok,ae,al,a4,hs,Q,H⟩:=c.out;have c9:=t.out.2.2.1;have c6:=h.lt;have bd:=ltH P.out.1.2;rw[hs,Q,H] at a1;refine⟨bV,_,sealM M,S6,(Chg.of_below P.out.2 _).two o,a1,ab,.inr ⟨bB.out.2,av.out,rfl,bo⟩,?_,?_,(o.block N bd (by have:=h.lt;omega)).trans P.out.1.2,Ad P.out.2.size o.size,o.bs (E.below P.out.2) (fun ad bS=>by have:=a4 ad bS;omega),fun x hx=>by simp[Value.ownBlock] at hx⟩
       ·show 0+15+m<=942;omega
       ·show((M.sealed+1:Nat):Int)<_;have:=bB.out.1;push_cast;omega)
      clear a1 ab bo o bL;go_wp2_with fail;go_meet;exact HM.out
  case rest=>
  obtain⟨wy,bb⟩:=qnm wc;rw[<-bb] at hcut⊢;clear bb;obtain⟨aa,c3,M5,S5,bm,aY,bp,hrel,bg,bq,D,aK,aq,aP⟩:=hcut;obtain⟨bu,bQ,aQ⟩:=HQ.out;have b4:M5.next+M5.wait.length=q/\M5.wait.length<=1000:=by
   rcases hrel with⟨rfl,_⟩ | ⟨_,_,rfl,_⟩
   ·exact⟨bu.symm,aQ⟩
   ·exact⟨by show M.next+M.wait.length+0=q;omega,AH _⟩
  obtain⟨n5,bf⟩:∃n5,M5.wait.length=n5:=⟨_,rfl⟩
  obtain⟨y,z,rfl,_⟩:=aY.wt.recs bf;have bc:B<=wy.heap.size:=Ad HS.out.2.1 aK;have c2:wy.cell? ⟨N,2,none⟩=some (.slice a m J):=a0a D 2;have ai:=qh (a0V a m J ys wy aq (by have:=HS.out.2.2.1.2.1;unfold big;omega));have H5:=qh (aI bm (aI bp (aI hrel (aI bg bq))));have R:=qh (aI aY (aI D (aI bc (aI aq.1 (aI b4.1 b4.2)))));have bU:=qh aP;have aB:=qh (show N≠l/\B<=N from⟨fun e=>by have:=HS.out.1.lt;have:=t.out.2.2.1;omega,by have:=t.out.2.2.1;have:=HS.out.2.1;omega⟩);clear bm aY bp hrel bg bq D aK aq bc b4 bu bQ aQ bf HA b2 aG aP;go_wp2_with fail;refine ai.out.mono ?_;rintro e w5 ⟨v5,rfl,b1,hb5⟩;obtain⟨va,vc,rfl,_⟩:=b1.bsn (n:=m) R.out.2.2.2.1;have D:=(hb5.block N (ltH R.out.2.1)).trans R.out.2.1;have T:=R.out.1.below hb5;have f2:=a0e D 2;have c0:w5.cell? ⟨N,2,none⟩=some (.slice a m J):=a0a D 2;have bd:=ltH D;obtain⟨w6,aJ⟩:=qnm (w5.setCell ⟨N,2,none⟩ (.slice va m vc));have o:Chg (fun k=>k=N) w5 w6:=by rw[aJ];exact a0x w5 N 2 _
  have ar:w6.heap[N]? =some (.cells #[.int .i64 (k:Int),.int .u64 (q:Int),.slice va m vc] a2U (0,0)):=by rw[aJ];exact a0f D
  have V:w6.heap[l]? =some (.cells (logC d (Y:Int) (pn:Int) (Z:Int) M5.sealed aa M5.next (.slice y n5 z)) TLog (0,0)):=(o.block l T.lt (fun e=>aB.out.1 e.symm)).trans T.cel;have bA:=a0G o D (by decide) b1;have b7:∀x,(Value.slice y n5 z).ownBlock=some x->x≠N:=fun x hx=>by have:=bU.out x hx;have:=t.out.2.2.1;omega
  have au:OwnR w6 B (.slice y n5 z) M5.wait:=b5L o D b7 T.wt;have b8:Own w6 B aa M5.head:=a0G o D (by decide) T.hd;have a1:LogIn w6 B l d (Y:Int) (pn:Int) (Z:Int) aa (.slice y n5 z) M5:=⟨V,b8,au⟩
  have ab:Dk w6 d sb mb Y S5 nM:=(H5.out.2.1.below hb5).chgl o (by have:=aB.out.2;have:=c.out.2.1;omega) (by have:=aB.out.2;have:=c.out.2.2.1;omega) (by have:=aB.out.2;have:=c.out.2.2.2.1;omega);have aT:Chg (fun k=>k=l∨k=d∨k=sb∨k=mb) w w6:=(H5.out.1.step hb5).trans o (fun x hx e=>by have:=t.out.2.2.1;omega);have a7:Below w6.heap.size w6 w6.drew:=(Ab _ _).drew;have aN:B<=w6.heap.size:=Ad R.out.2.2.1 (Ad hb5.size o.size);obtain⟨v',w8,bi,ba,af,c4⟩:=a4C (w:=w6.drew) B (.slice y n5 z) M5.wait (au.below a7) ⟨(k:Int),q,va,m,vc,ys⟩ (show q<18446744073709551616 by have:=HQ.out;omega) (show ys.length=m from R.out.2.2.2.1) ((bA.below a7).base R.out.2.2.1) a4r (by have:=R.out.2.2.2.2.2;omega) aN;obtain⟨n8,bh⟩:∃n8,(M5.wait ++[(⟨(k:Int),q,va,m,vc,ys⟩:Rc)]).length=n8:=⟨_,rfl⟩
  obtain⟨a8,c8,rfl,_⟩:=ba.recs bh;clear bh;have a3:Below w6.drew.heap.size w6.drew (w6.drew.alloc (.cells #[.int .i64 (k:Int),.int .u64 (q:Int),.slice va m vc] a2U)):=(Ab _ _).alloc (Aa _) _;have O:=a7.trans (a3.mono a7.size);have aL:∀x,(Value.slice y n5 z).ownBlock=some x->∃C fr,(w6.drew.alloc (.cells #[.int .i64 (k:Int),.int .u64 (q:Int),.slice va m vc] a2U)).heap[x]? =some (.cells C a2U fr):=fun x hx=>by
   obtain⟨C2,bj,h3⟩:=au.ty x hx;exact⟨C2,bj,(O.block x (ltH h3)).trans h3⟩
  have bz:(Value.slice y n5 z).ownBlock≠some l:=fun e=>by
   obtain⟨C2,bj,h3⟩:=au.ty l e;rw[V] at h3;injection h3 with h3;injection h3 with _ h3;exact absurd h3 (by decide)
  have aE:=(O.block l (ltH V)).trans V;have U:=(af.block l (ltH aE) (fun e=>bz e.symm)).trans aE;have bJ:Own w8 B aa M5.head:=a6l (b8.below O) af aL;have f7:=a0e U 7;have bZ:w8.cell? ⟨l,7,none⟩=some (.slice y n5 z):=a0a U 7;have c7:w6.cell? ⟨l,7,none⟩=some (.slice y n5 z):=a0a V 7;obtain⟨d0,d1,d2⟩:=a34 ar;have aM:Chg (fun x=>x=l∨(Value.slice y n5 z).ownBlock=some x) w6 w8:=(Chg.of_below O _).grown af (fun x _ hx=>.inr hx);have bX:=ltH U;have HF:=qh (show b0M w B l d sb mb Y pn Z S hv (.slice wa n u) M k q m ys (.returned (.int .i64 0)) (w8.setCell ⟨l,7,none⟩ (.slice a8 n8 c8)) from
    .inr ⟨rfl,w6,aa,_,M5,S5,aT,a1,ab,H5.out.2.2.1.imp (fun h=>⟨h.1,h.2.1,(h.2.2.1.trans (hb5.mono h.2.2.1.size)).trans (o.below (Ad h.2.2.1.size hb5.size) (fun x _ e=>by have:=t.out.2.2.1;omega)),h.2.2.2⟩) id,H5.out.2.2.2.1,H5.out.2.2.2.2,_,⟨(k:Int),q,va,m,vc,ys⟩,rfl,⟨a0f U,a3O U (a0x w8 l 7 (.slice a8 n8 c8)) bJ,a5M U (a0x w8 l 7 (.slice a8 n8 c8)) ba⟩,aM.trans (a0x w8 l 7 (.slice a8 n8 c8)) (fun x _ h=>.inl h)⟩)
  have bO:=qh aJ;have aw:=(O.block N (ltH ar)).trans ar;have bE:w8.heap[N]? =some (.cells #[.int .i64 (k:Int),.int .u64 (q:Int),.slice va m vc] a2U (0,0)):=(af.block N (ltH aw) (fun e=>b7 N e.symm rfl)).trans aw;have bP:=qh (aI (show(w6.drew.alloc (.cells #[.int .i64 (k:Int),.int .u64 (q:Int),.slice va m vc] a2U)).cell? ⟨l,7,none⟩=some (.slice y n5 z) from a0a aE 7) (a34 aw));have bT:=qh (aI (show w8.cell? ⟨l,7,none⟩=some (.slice y n5 z) from a0a U 7) (a34 bE));have bW:=ltH V;have bY:=ltH ar;clear D T o ar V bA b7 au b8 a1 ab aT a7 aN ba af a3 O aL bz aE U bJ aM b1 hb5 ai aJ aw bE;go_upto_region 10 with fail
  rw[<-bO.out];refine a0h (fun i=>[0,1,2,3,4,5,6,7,8,9].contains i) (fun w'=>w'.cell? ⟨l,7,none⟩=some (.slice y n5 z)/\w'.cell? ⟨N,0,none⟩=some (.int .i64 (k:Int))/\w'.cell? ⟨N,1,none⟩=some (.int .u64 (q:Int))/\w'.cell? ⟨N,2,none⟩=some (.slice va m vc)) (by kernel_rfl) ?_ (fun hHeld=>?_)
  ·exact⟨c7,d0,d1,d2⟩
  refine qtk 0 51 ?_;refine qtk 1 52 ?_;refine qtk 2 53 ?_;refine qtk 3 54 ?_;refine qtk 4 55 ?_;refine qtk 5 56 ?_;refine qone 6 fun K hK=>?_
  go_simp;have hHeld:=bP.out;refine hK.out _ _ (fun _=>hHeld) ?_;clear hK K;refine qone 7 fun K hK=>?_
  refine a0D (by rfl) _ _ a4r rfl _ _ _ (by rfl) (by rfl) bi ?_;have hHeld:=bT.out;refine hK.out _ _ (fun _=>hHeld) ?_;clear hK K;refine qone 8 fun K hK=>?_
  go_simp;refine hK.out _ _ (fun _=>hHeld) ?_;clear hK K;refine qone 9 fun K hK=>?_
  go_simp;refine hK.out _ _ (fun _=>hHeld) ?_;clear hK K;refine qone 10 fun K hK=>?_
  go_simp;refine hK.out _ _ (fun h=>by simp at h) ?_;clear hK K;refine qdon ?_;go_wp2_with fail;go_ret;exact HF.out
theorem a9E{sb mb i:Nat}{S:List UInt8}{pn f:Nat}(h:LogIn w B l d (i:Int) (pn:Int) (f:Int) hv wv M)(P:Dk w d sb mb i S nM)(N:d<B)(u:sb<B)(x:mb<B)(E:B<=l)(o:B<=w.heap.size)(G:isPlan (i:Int) (pn:Int) (f:Int))(K:LogOk (f:Int) M)(s:1+2 * pn+f * 8<=i)(k q m p:Nat)(a:Option Addr)(ys:List UInt8)(O:q=M.next+M.wait.length)(I:M.next+M.wait.length<=1099511627776)(r:a1Z (k:Int) q m)(v:m<=900)(n:Bs w a m p ys)(t:∀g,a=some g->g.block≠l/\g.block≠d/\g.block≠sb/\g.block≠mb)(z:M.wait=[])(L:M.sealed+1<f):
  Calls Tryz.prog 40 #[.pointer (some ⟨l,0,none⟩),.agg #[.int .i64 (k:Int),.int .u64 (q:Int),.slice a m p]] w fun e w'=>e= .returned (.int .i64 0)/\
   (∃b j,j.core=((k:Int),q,ys)/\LogIn w' B l d (i:Int) (pn:Int) (f:Int) hv b ⟨M.sealed,M.head,M.next,[j]⟩)/\Chg (fun k=>k=l∨wv.ownBlock=some k) w w':=by
 refine(a7M h P N u x E o G K s k q m p a ys O I r v n t).mono ?_;rintro e w' (⟨H,_,_,_,c⟩ | ⟨J,W,A,D,R,Q,_,_,_,c,_,_,b,j,C,y,F⟩)
 ·omega
 ·rcases c with⟨rfl,rfl,c,rfl,rfl⟩ | ⟨c,_⟩
  ·refine⟨J,⟨b,j,C,?_⟩,(Chg.of_below c _).two F⟩;rw[z] at y;exact y
  ·exact absurd z c
end
section
open Go.RowKit Go.ChangeMaps Go.MapKept
abbrev TVault:TypeId:=80
def vaA(d s l:Nat)(n pn g:Int)(iv:Value)(gen seq:Nat)(sgs rcs:Int)(hv:Value):Array Value:=#[.pointer (some ⟨d,0,none⟩),.pointer (some ⟨s,0,none⟩),.pointer (some ⟨l,0,none⟩),.int .i64 n,.int .i64 pn,.int .i64 g,iv,.int .u64 (gen:Int),.int .u64 (seq:Int),.int .i64 sgs,.int .i64 rcs,hv]
theorem b2P{w:World}{B d sb mb n l s:Nat}{S:List UInt8}{M:LogM}{lh:Value}(hD:Dk w d sb mb n S nM)(g pn:Nat)(hp:isPlan (n:Int) (pn:Int) (g:Int))(hn:1+2 * pn+g * 8<=n)(hL:LogIn w B l d n pn g lh (.slice none 0 0) M)(a2:B<=w.heap.size)(hw:M.wait=[])(ab:M.sealed+1<g)(D:d<B/\sb<B/\mb<B/\B<=l)(E:LogOk (g:Int) M)(hz:catS S nM (1+2 * pn+M.sealed * 8) 8=List.replicate 1024 0)(T:M.next<=1099511627776)
  (iv hv:Value) (gen seq:Nat) (sgs rcs:Int):
  Calls Tryz.prog 64 #[.pointer (some ⟨d,0,none⟩),.pointer (some ⟨s,0,none⟩),.pointer (some ⟨l,0,none⟩),a6P n pn g iv gen seq sgs rcs hv] w fun e w'=>
   (∃v,e= .returned (.pointer (some ⟨v,0,none⟩))/\w.heap.size<=v/\w'.heap[v]? =some (.cells (vaA d s l n pn g iv gen seq sgs rcs hv) TVault (0,0)))/\
    (∃wv r,Rc.core r=(2,M.next,[])/\LogIn w' B l d n pn g lh wv ⟨M.sealed,M.head,M.next,[r]⟩)/\Chg (fun k=>k=l) w w':=by
 obtain⟨O,A⟩:=qnm (w.alloc (.cells #[.int .i64 (n:Int),.int .i64 (pn:Int),.int .i64 (g:Int),iv,.int .u64 (gen:Int),.int .u64 (seq:Int),.int .i64 sgs,.int .i64 rcs,hv] a0T));have hb0:=qba A;have H:O.heap[w.heap.size]? =some (.cells (a8j n pn g iv gen seq sgs rcs hv) a0T (0,0)):=by rw[A];exact Ae w _
 obtain⟨N,hN⟩:=qnm w.heap.size;rw[<-hN] at H;obtain⟨sl,j⟩:=qnm M.sealed;have G:=fun W (R:Below w.heap.size w W)=>a3x (hL.below R)
 simp only[<-j] at G;rw[<-j] at hz;have a8:=qh G;have U:=qh (fun W (R:Below w.heap.size w W)=>a6k (hD.below R) (n:Int) (pn:Int) (g:Int) hp sl (1+2 * pn+sl * 8) (by omega) (by push_cast;rfl) (by omega));have HP:=qh hp.bd;have c:=qh (aI D (aI E (aI hp (aI hn (show M.sealed+1<g by omega)))));have m:=qh (aI hD (aI hL (aI hw (aI hz (aI T (aI a2 (aI (show sl<g by omega) j)))))));have u:=qh (aI A (aI hb0 (aI H hN)));clear hD hp hn hL a2 hw ab hz T A hb0 H hN j G D E;unfold a6P;go_enter Tryz.func64,Tryz.ntmps64;go_upto_region 1 with fail
 rw[<-u.out.1];rw[<-u.out.2.2.2];obtain⟨wd,C⟩:=qnm O.drew;have f:Below O.heap.size O wd:=by rw[C];exact(Ab _ _).drew
 have F:=qh (u.out.2.1.trans (f.mono u.out.2.1.size));have a6:=qh (fun W (R:Below O.heap.size O W)=>have b:=a06 ((R.block N (ltH u.out.2.2.1)).trans u.out.2.2.1);aI b.1 (aI b.2.1 b.2.2.1));refine a0h (fun i=>[0,1,2,3,4,5,6].contains i) (fun w'=>w'.cell? ⟨N,0,none⟩=some (.int .i64 (n:Int))/\w'.cell? ⟨N,1,none⟩=some (.int .i64 (pn:Int))/\w'.cell? ⟨N,2,none⟩=some (.int .i64 (g:Int))) (by kernel_rfl) ?_ (fun hHeld=>?_)
 ·rw[<-C];exact a6.out _ f
 rw[<-C] at hHeld⊢;clear C;refine qtk 0 10 ?_;refine qtk 1 11 ?_;refine qtk 2 12 ?_;refine qtk 3 13 ?_;refine qone 4 fun K hK=>?_
 go_simp;refine(a8.out wd F.out).mono ?_;rintro e wq ⟨rfl,V⟩;rw[V];clear V wq;go_wp2_with fail;refine hK.out _ _ (fun _=>hHeld) ?_;clear hK K;refine qone 5 fun K hK=>?_
 go_simp;refine(U.out wd F.out).mono ?_;rintro e w1 ⟨v1,rfl,L,hb1⟩;rw[m.out.2.2.2.1] at L;obtain⟨a1,k1,rfl,Y⟩:=L.bsn (n:=1024) (by simp);have hHeld:=a6.out _ (f.trans (hb1.mono f.size));have P:=qh (aI Y (f.trans (hb1.mono f.size)));clear Y L hb1;go_wp2_with fail;refine hK.out _ _ (fun _=>hHeld) ?_;clear hK K;refine qtk 6 9 ?_;refine qdon ?_;clear hHeld f F;have a3:=qh (a7S a1 1024 k1 _ w1 P.out.1);go_wp2_with fail;refine a3.out.mono ?_;rintro e w2 ⟨⟨ta,tk,tc,rfl,I⟩,hb2⟩;obtain rfl:tk=0:=by
  have hn:a5I (List.replicate 1024 0)=true:=by unfold a5I;simp
  rw[hn] at I;rcases BS tk with h | h
  ·exact h
  ·exact absurd (I.1 h) (by simp)
 have a:Below w.heap.size w w2:=u.out.2.1.trans ((P.out.2.trans (hb2.mono P.out.2.size)).mono u.out.2.1.size);have o:=m.out.2.1.below a;obtain⟨nx,x⟩:=qnm M.next
 have q:=a4S o (by rw[m.out.2.2.1];have:=m.out.2.2.2.2.1;show M.next+0<=_;omega);simp only[m.out.2.2.1,Ay,BT,<-x] at q;have a7:=qh q;have J:=qh x;have H2:=qh (aI a o);have X:=qh (((P.out.2.trans (hb2.mono P.out.2.size)).block N (ltH u.out.2.2.1)).trans u.out.2.2.1);clear I hb2 a o q x a3 U P;go_wp2_with fail;refine a7.out.mono ?_;rintro e w3 ⟨rfl,hb3⟩;obtain⟨a,o⟩:=H2.out;have a4:=o.below hb3;have Q:=a9E a4 (m.out.1.below (a.trans (hb3.mono a.size))) c.out.1.1 c.out.1.2.1 c.out.1.2.2.1 c.out.1.2.2.2 (Ad m.out.2.2.2.2.2.1 (Ad a.size hb3.size)) c.out.2.2.1 c.out.2.1 c.out.2.2.2.1 2 nx 0 0 none [] (by rw[m.out.2.2.1,J.out];rfl) (by rw[m.out.2.2.1];have:=m.out.2.2.2.2.1;show M.next+0<=_;omega) ⟨by have:=m.out.2.2.2.2.1;have:=J.out;omega,by omega,.inr ⟨rfl,rfl⟩⟩ (by omega) ⟨rfl,by omega,by omega,.inl rfl⟩ (fun ad e=>by cases e) m.out.2.2.1 c.out.2.2.2.2;have Z:=qh Q;have a9:=qh (a.trans (hb3.mono a.size));have a0:=qh ((hb3.block N (by have:=ltH X.out;exact this)).trans X.out);clear a o a4 Q hb3;go_wp2_with fail;refine Z.out.mono ?_;rintro e w4 ⟨rfl,⟨wv,r,y,z⟩,t⟩;have p:Chg (fun k=>k=l) w3 w4:=t.mono (fun k _ e=>e.elim id (fun e=>by cases e));have aa:N≠l:=by have:=m.out.2.1.lt;have:=u.out.2.2.2;omega
 have a5:=(p.block N (ltH a0.out) aa).trans a0.out;obtain⟨b0,b1,b2,b3,b4,b5,b6,b7,b8⟩:=a06 a5;have HF:=qh (aI y (aI z ((Chg.of_below a9.out (fun k=>k=l)).two p)));clear y z t p a5 Z;go_wp2_with fail;go_ret;obtain⟨y,z,t⟩:=HF.out;exact⟨⟨w4.heap.size,rfl,t.size,Ae w4 _⟩,⟨wv,r,by rw[y,J.out];rfl,z.below ((Ab _ _).alloc (Aa _) _)⟩,t.step ((Ab _ _).alloc (Aa _) _)⟩
theorem a6r{w:World}{B l d:Nat}{s p g:Int}{hv b:Value}{M:LogM}(h:LogIn w B l d s p g hv b M):AlienS w l:=
 ⟨fun C f i a=>by rw[h.cel] at a;injection a with a;injection a with _ a;subst a;exact⟨by decide,by decide,by decide,by decide,by decide,by decide,by decide⟩,fun c e a=>by rw[h.cel] at a;injection a with a;cases a⟩
theorem b49{w:World}{d sb mb n:Nat}{S:List UInt8}(hD:Dk w d sb mb n S nM)(h1:64<=n)(g c:Nat)(B:(g:Int)=seg (n:Int))(id:List UInt8)(hid:id.length=16)(b f:PtV)(sg:Nat->List UInt8)(K:DOk S n (n / 4) g id (a1r (n / 4) b.m) (a1r (n / 4) f.m) sg)
  (E:b.Good g (n / 4) c) (I:f.Good g (n / 4) c) (hc:c<=60000) (hq:(a03 b f).m.seq<1099511627776) (a8:(a03 b f).m.seg+1<g) (hz:∀i:Nat,(a03 b f).m.seg<=(i:Int)->i<g->sg i=List.replicate 1024 0):
  Calls Tryz.prog 25 #[.pointer (some ⟨d,0,none⟩)] w fun e w'=>
   ∃v L l iv hv,e= .returned (.tuple #[.pointer (some ⟨v,0,none⟩),.int .i64 0])/\w.heap.size<=v/\w'.heap[v]? =some (.cells (vaA d L l n (n / 4:Nat) g iv (a03 b f).m.gen (a03 b f).m.seq (a03 b f).m.seg 0 hv) TVault (0,0))/\w.heap.size<=l/\
    (∃Y wv r,Rc.core r=(2,(a3b (a03 b f).m.seg.toNat id (a03 b f).m.head ((a03 b f).m.seq+1)).next,[])/\LogIn w' w.heap.size l d n (n / 4:Nat) g Y wv { a3b (a03 b f).m.seg.toNat id (a03 b f).m.head ((a03 b f).m.seq+1) with wait:=[r] })/\
    Own w' w.heap.size iv id/\StAt w' w.heap.size w.heap.size w.heap.size L (a03 b f).st/\Dk w' d sb mb n S nM/\Below w.heap.size w w':=by
 have y:=qh (b5Y hD h1 g c B id hid b f sg K E I hc hq hz);have t:=a6p E I;obtain⟨P,hP⟩:=qnm (a03 b f);rw[<-hP] at y t hq a8 hz⊢;obtain⟨fr,A⟩:∃fr:Nat,P.m.seg=(fr:Int):=⟨P.m.seg.toNat,by have:=t.right.2.2.2.1;omega⟩
 obtain⟨OM,q⟩:=qnm (a3b P.m.seg.toNat id P.m.head (P.m.seq+1));obtain⟨pn,M⟩:=qnm (n / 4);have ai:n<=4096:=hD.2.2.1;have H:isPlan (n:Int) (pn:Int) (g:Int):=⟨by omega,by omega,by omega,B⟩
 have a1:1+2 * pn+g * 8<=n:=by unfold seg at B;omega
 have a7:OM.sealed=fr:=by rw[q,A];rfl
 have p:OM.wait=[]:=by rw[q];rfl
 have J:OM.next<=1099511627776:=by
  rw[q];show(if P.m.seg.toNat=0 then 1 else P.m.seq+1)<=1099511627776;split
  ·omega
  ·exact hq
 have ab:catS S nM (1+2 * pn+OM.sealed * 8) 8=List.replicate 1024 0:=by rw[a7,M,K.seg fr (by omega)];exact hz fr (by omega) (by omega)
 rw[<-q,<-M] at y⊢;have X:OM.sealed+1<g:=by omega
 have aa:=H.bd;have D:LogOk (g:Int) OM:=⟨by omega,by omega,by omega,by
  rw[q];unfold a3b;show(if P.m.seg.toNat=0 then _ else P.m.head).length=32;split
  ·exact a0v _
  ·exact t.right.2.2.2.2.2,by rw[p];exact J,by rw[p];exact a3R _,by rw[p];exact AH _,fun j hj=>by rw[p] at hj;exact absurd hj (Nat.not_lt_zero _)⟩
 have C:=qh (aI D hD.lt);have u:=qh (aI hD (aI H (aI a1 (aI p (aI X (aI ab (aI J t.sn.no)))))));have HQ:=qh A;have af:=qh hid;rw[A] at y⊢;clear hD h1 B hid K E I hc hq a8 hz t hP q M ai H a1 a7 p J ab X A D aa;go_enter Tryz.func25,Tryz.ntmps25;go_wp2_with fail;refine y.out.mono ?_;rintro e w1 ⟨L,l,iv,hv,rfl,F,⟨Y,a3⟩,⟨hh,Z,a6⟩,O,ad,hb1⟩;obtain⟨T,R,rfl,_⟩:=O.bsn (n:=16) af.out;obtain⟨W,z,rfl,_⟩:=Z.bsn (n:=32) a6;obtain⟨w2,o⟩:=qnm (w1.alloc (.cells (a8j n pn g (.slice T 16 R) P.m.gen P.m.seq fr 0 (.slice W 32 z)) a0T));have hb2:=qba o;obtain⟨N,hN⟩:=qnm w1.heap.size;have ac:w2.heap[N]? =some (.cells (a8j n pn g (.slice T 16 R) P.m.gen P.m.seq fr 0 (.slice W 32 z)) a0T (0,0)):=by rw[o,hN];exact Ae w1 _
 have a:=hb1.trans (hb2.mono hb1.size);have h:=a3.below hb2;have G:=qh (b2P (s:=L) (u.out.1.below a) g pn u.out.2.1 u.out.2.2.1 h a.size u.out.2.2.2.1 u.out.2.2.2.2.1 ⟨C.out.2.1,C.out.2.2.1,C.out.2.2.2,F⟩ C.out.1 u.out.2.2.2.2.2.1 u.out.2.2.2.2.2.2.1 (.slice T 16 R) (.slice W 32 z) P.m.gen P.m.seq fr 0);have H2:=qh (aI a (aI h (aI (O.below hb2) (aI (ad.below hb1.size hb2) F))));have ah:=qh (aI o hN);obtain⟨b0,b1,b2,b3,b4,b5,b6,b7,b8⟩:=a06 ac;unfold a8j at o;have a4:=qh o;unfold a6P;unfold a6P at G;clear a3 Z a6 O ad hb1 F o hb2 hN ac a h y;go_upto_region 2 with fail
 rw[<-a4.out,<-ah.out.2];go_wp2_with fail;refine G.out.mono ?_;rintro e Q ⟨⟨v,rfl,ae,U⟩,⟨wv,r,a2,a9⟩,x⟩;obtain⟨a,h,a0,V,a5⟩:=H2.out;have hF:=show w.heap.size<=v/\Q.heap[v]? =some (.cells (vaA d L l n pn g (.slice T 16 R) P.m.gen P.m.seq fr 0 (.slice W 32 z)) TVault (0,0))/\w.heap.size<=l/\(∃Y wv r,Rc.core r=(2,OM.next,[])/\LogIn Q w.heap.size l d n pn g Y wv { OM with wait:=[r] })/\
    Own Q w.heap.size (.slice T 16 R) id/\StAt Q w.heap.size w.heap.size w.heap.size L P.st/\Dk Q d sb mb n S nM/\Below w.heap.size w Q from by
  have aj:=u.out.1.lt;have ag:=a.size;refine⟨by omega,U,a5,⟨Y,wv,r,a2,a9⟩,a0G x h.cel (by decide) a0,?_,(u.out.1.below a).chgl x (by omega) (by omega) (by omega),a.trans (x.below ag (fun k _ e=>by omega))⟩;exact((V.any0 (C':=w2.heap.size) u.out.2.2.2.2.2.2.2 (fun _=>rfl) (Aa _) (Aa _)).alien x (fun k _ e=>.inr (by rw[e];exact a6r h))).any0 u.out.2.2.2.2.2.2.2 (fun _=>rfl) (Aa _) (Aa _)
 have HF:=qh hF;clear U a2 a9 x a h a0 V a5 hF ae G;go_wp2_with fail;go_ret2;exact⟨v,L,l,.slice T 16 R,.slice W 32 z,rfl,HF.out⟩
end
end Go.Proofs.YtbemfdcjieakdaaGreatDoor
