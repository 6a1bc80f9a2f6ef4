/- TreeRead; TreeLinks. -/
import Derived.Laws.Cover1
import Derived.Sort.Walk0
import Derived.Test.YtbemfdcjieakdaaGreatDoorK24
set_option maxRecDepth 100000
set_option maxHeartbeats 8000000
namespace Go.Proofs.YtbemfdcjieakdaaGreatDoor
section
open Go.RowKit Go.ChangeMaps Go.MapKept
theorem ltH{w:World}{b:Nat}{o:Obj}(h:w.heap[b]? =some o):b<w.heap.size:=(Array.getElem?_eq_some_iff.1 h).1
theorem Chg.two{S:Nat->Prop}{a b c:World}(h:Chg S a b)(k:Chg S b c):Chg S a c:=h.trans k (fun _ _ h=>h)
structure ItOk (x:It):Prop where
 ok:x.n.Ok
 til:x.n.til<18446744073709551616
 sz:(x.b.length:Int)=x.n.size
 bl:x.b.length<=4096
 nl:x.names.length<=60000
 good:∀p∈x.names,goodN p.1=true/\p.2<65536
 rise:x.names.Pairwise (fun p q=>bytesBefore p.1 q.1=true)
 no:x.n.kind≠2->x.names=[]
 kd:x.n.kind=1∨x.n.kind=2
theorem a9B(a b:List UInt8)(h:bytesBefore a b=true):bytesBefore b a=false:=by
 cases c:bytesBefore b a with
 | false=>rfl
 | true=>exact absurd (a1L b a c) (List.lt_asymm (a1L a b h))
theorem b3C(k:List UInt8)(v:Nat)(L:List (List UInt8×Nat))(h:∀p∈L,bytesBefore p.1 k=true):a1w a0L k v L=L ++[(k,v)]:=by
 have c:L.filter (fun p=> !decide (p.1=k))=L:=Ce.2 (fun p b=>by
  have a:=h p b;have:p.1≠k:=fun e=>by rw[e] at a;exact B3 _ (a1L _ _ a)
  simp[this])
 unfold a1w;rw[c];clear c
 induction L with
 | nil=>rfl
 | cons y r d=>
  have a:=a9B _ _ (h y (AL ..));have e:a6O a0L (k,v) (y :: r)=y :: a6O a0L (k,v) r:=by
   show(if a0L.lt k y.1 then _ else _)=_;rw[show a0L.lt k y.1=false from a];rfl
  rw[e,d (fun p b=>h p (AI _ b))];rfl
theorem b8H(a b:List UInt8)(h:bytesBefore b a=true):(Op.bytesLess (a0c a).toList (a0c b).toList || (a0c a).toList == (a0c b).toList)=false:=by
 rw[a0X,a0X,bytesLess_eq];have c:=a1L _ _ h;have d:¬a<b:=List.lt_asymm c;have h3:¬a=b:=fun e=>by rw[e] at c;exact B3 _ c
 simp[d,h3]
def b2c(l:List (List UInt8×Nat)):List UInt8:=(l.getLast?.map (·.1)).getD []
theorem b2b(l:List (List UInt8×Nat))(p:List UInt8×Nat):b2c (l ++[p])=p.1:=by simp[b2c]
theorem a86(p:List UInt8×Nat)(l:List (List UInt8×Nat)):a1d (p :: l)=a0j p.1 ++(be p.2 2 ++a1d l):=by simp[a1d]
theorem b2y(a:List UInt8)(h:a≠[]):bytesBefore [] a=true:=by
 cases a with
 | nil=>exact absurd rfl h
 | cons x r=>rfl
theorem b6i{s:List UInt8}(h:goodN s=true):s≠[]:=by
 intro e;subst e;exact absurd h (by decide)
theorem b26{l:List (List UInt8×Nat)}(h:l.Pairwise (fun p q=>bytesBefore p.1 q.1=true)){j:Nat}(a:j<l.length):(∀p∈l.take j,bytesBefore p.1 (l[j]'a).1=true):=by
 intro p c;obtain⟨i,b,rfl⟩:=Bi c;rw[List.getElem_take];rw[Av] at b;exact List.pairwise_iff_getElem.1 h i j (by omega) a (by omega)
theorem b0j{w:World}{N:Nat}{n:Nd}(h:w.heap[N]? =some (.cells n.cells 39 (0,0))):
  w.cell? ⟨N,0,none⟩=some (.int .i64 n.id)/\w.cell? ⟨N,1,none⟩=some (.int .i64 n.kind)/\w.cell? ⟨N,2,none⟩=some (.int .i64 n.links)/\w.cell? ⟨N,3,none⟩=some (.int .i64 n.size)/\w.cell? ⟨N,4,none⟩=some (.int .u64 (n.til:Int))/\w.cell? ⟨N,5,none⟩=some (.bool n.closed):=
 ⟨a0a h 0,a0a h 1,a0a h 2,a0a h 3,a0a h 4,a0a h 5⟩
theorem b2W{P q:Nat}{rb:Option Nat}{W:World}{L:List UInt8}(x:It)(hx:ItOk x)(h:RC P q rb W (a1e x ++L)):
  Calls Tryz.prog 333 #[.pointer (some ⟨q,0,none⟩)] W fun e w'=>∃g nb,e= .returned (.tuple #[.pointer (some ⟨g,0,none⟩),.bool true])/\ItAt w' W.heap.size W.heap.size g nb x/\RC P q rb w' L/\Chg (fun k=>k=q) W w':=by
 have HX:=qh hx;have bE:=h.qlt;have bf:=qh h.rlt;have ba:=h.len;have e0:a1e x ++L=a0j x.n.bytes ++(a0j x.b ++(be x.names.length 2 ++(a1d x.names ++L))):=by unfold a1e;simp[List.append_assoc]
 rw[e0] at h;have br:=qh (a5L _ h (by rw[x.n.bytes_length];omega));have bC:=b0p x.n hx.ok hx.til;have HD:=qh bC;have bV:=hx.bl;have bN:=hx.nl;obtain⟨H,hH⟩:=qnm W.heap.size;rw[<-hH] at bE;have HH:=qh hH;clear h e0 bC ba hx hH;go_enter Tryz.func333,Tryz.ntmps333;go_wp2_with fail;refine br.out.mono ?_;rintro e w1 ⟨⟨v1,rfl,bD⟩,bm,b8⟩;obtain⟨a1,k1,rfl,b2⟩:=bD.bsn (n:=16) x.n.bytes_length;have HN:=qh (b5W a1 16 k1 _ w1 b2 (by unfold big;decide));rw[HD.out] at HN;have aP:=qh (aI bm b8);clear bD b2 bm b8 br;go_wp2_with fail;refine HN.out.mono ?_;rintro e w2 ⟨rfl,hb2⟩;have ae:=qh (aI (aP.out.1.below hb2) (aP.out.2.step hb2));unfold b62 Nd.cells;simp only[B8,Bp,BR];clear hb2 HN aP;go_upto_region 2 with fail
 obtain⟨w3,ap⟩:=qnm (w2.alloc (.cells #[.int .i64 x.n.id,.int .i64 x.n.kind,.int .i64 x.n.links,.int .i64 x.n.size,.int .u64 (x.n.til:Int),.bool x.n.closed] 39));rw[<-ap];obtain⟨M,hM⟩:=qnm w2.heap.size;rw[<-hM];have bk:w3.heap[M]? =some (.cells x.n.cells 39 (0,0)):=by rw[hM,ap];exact Ae w2 _
 have aV:H<=M:=by rw[hM,HH.out];exact ae.out.2.size
 have aN:=qh (show RC P q rb w3.drew (a0j x.b ++(be x.names.length 2 ++(a1d x.names ++L)))/\Chg (fun k=>k=q) W w3.drew from by
  have hb:Below w2.heap.size w2 w3.drew:=by rw[ap];exact((Ab _ _).alloc (Aa _) _).drew
  exact⟨ae.out.1.below hb,ae.out.2.step hb⟩)
 have bK:=qh (a5L _ aN.out.1 (by omega));have ar:M≠q:=by omega
 have HM:=qh (aI aV ar);clear ap hM ae aV;refine a0h (fun i=>[0,1,2,3,4].contains i) (fun w'=>w'.heap[M]? =some (.cells x.n.cells 39 (0,0))) (by kernel_rfl) ?_ (fun hHeld=>?_)
 ·exact bk
 refine qtk 0 16 ?_ (hy:=Or.inl ⟨by rfl,by intro w aS;(try dsimp only at aS);obtain⟨y0,y1,y2,y3,y4,y5⟩:=b0j aS;go_simp;(try with_reducible rfl)⟩);refine qtk 1 17 ?_;refine qone 2 fun K hK=>?_
 go_simp;refine(bK.out).mono ?_;rintro e w4 ⟨⟨v4,rfl,T⟩,Z,Q⟩;obtain⟨bn,J⟩:∃bn,x.b.length=bn:=⟨_,rfl⟩
 obtain⟨X,D,rfl,_⟩:=T.bsn J;have hHeld:(fun w'=>w'.heap[M]? =some (.cells x.n.cells 39 (0,0))) w4:=(Q.block M (ltH hHeld) HM.out.2).trans hHeld;have ah:=qh (aI Z (aI (aN.out.2.two Q) (aI (T.base aN.out.2.size) (aI J.symm hHeld))));clear Z Q T J;go_wp2_with fail;refine hK.out _ _ (fun _=>hHeld) ?_;clear hK K;refine qtk 3 19 ?_;refine qone 4 fun K hK=>?_
 go_simp;refine hK.out _ _ (fun _=>(((Ab _ w4).alloc (Aa _) _).block M (ltH ah.out.2.2.2.2)).trans ah.out.2.2.2.2) ?_;clear hK K;refine qfr 5 6 ?_;refine qdon ?_;clear hHeld bk;obtain⟨w5,av⟩:=qnm (w4.alloc (.cells #[.int .i64 x.n.id,.int .i64 x.n.kind,.int .i64 x.n.links,.int .i64 x.n.size,.int .u64 (x.n.til:Int),.bool x.n.closed,.slice X bn D,.map none] a17));rw[<-av];obtain⟨g,hg⟩:=qnm w4.heap.size;rw[<-hg];obtain⟨Z,Q,T,J,aL⟩:=ah.out;have hb5:=qba av;have E:w5.heap[g]? =some (.cells (itC x.n (.slice X bn D) (.map none)) a17 (0,0)):=by rw[hg,av];exact Ae w4 _
 have I:=(hb5.block M (Array.getElem?_eq_some_iff.1 aL).1).trans aL;have bd:H<=g:=by rw[hg,HH.out];exact Q.size
 have aH:=Z.below hb5;have a7:=Q.step hb5;have V:=T.below hb5;have b7:g≠q:=by omega
 have aT:=qh (aI J bd);obtain⟨d0,d1,d2,d3,d4,d5,d6,d7⟩:=a0m E;obtain⟨f0,f1,f2,f3,f4,f5⟩:=b0j I;obtain⟨count,r⟩:=qnm x.names.length;rw[<-r] at aH bN;have d:=(Ab w5.heap.size w5).drew;have aX:=qh (a2B count (aH.below d) (by omega));have af:=qh r;have bB:=qh (show Chg (fun k=>k=q) W w5.drew/\Own w5.drew W.heap.size (.slice X bn D) x.b/\w5.drew.heap[g]? =some (.cells (itC x.n (.slice X bn D) (.map none)) a17 (0,0))/\w5.drew.heap[M]? =some (.cells x.n.cells 39 (0,0)) from⟨a7.step d,V.below d,E,I⟩);have e2:((bn:Int) != x.n.size)=false:=by rw[Bz,<-HX.out.sz,J]
 have HG:=qh (aI b7 (ltH E));have bA:=ltH I;have bq:=ltH E;clear av hg hb5 Z Q T aL ah aH a7 V E I bd b7 r J d;go_upto_region 3 with fail
 refine a0h (fun i=>[0,1,2,3,4,5,6,7,8,9,10,11].contains i) (fun w'=>w'.cell? ⟨g,6,none⟩=some (.slice X bn D)/\w'.cell? ⟨M,3,none⟩=some (.int .i64 x.n.size)) (by kernel_rfl) ?_ (fun hHeld=>?_)
 ·go_keep
 refine qtk 0 21 ?_;refine qtk 1 22 ?_;refine qtk 2 23 ?_;refine qtk 3 24 ?_;refine qtk 4 25 ?_;refine qtk 5 26 ?_;refine qtk 6 27 ?_;refine qtk 7 28 ?_;refine qtk 8 29 ?_;refine qtk 9 30 ?_;refine qtk 10 31 ?_;refine qtk 11 32 ?_;refine qdon ?_;clear hHeld;go_wp2_with fail;refine aX.out.mono ?_;rintro e w6 ⟨rfl,u,a5⟩;obtain⟨a7,V,E,I⟩:=bB.out;have ar:=HM.out.2;have c:=(a5.block g bq HG.out.1).trans E;have bx:=(a5.block M bA ar).trans I;have t:=a5.own V (fun k hk e=>by have:=V.ge k hk;have:=HH.out;omega);have a:=a7.two a5;obtain⟨d0,d1,d2,d3,d4,d5,d6,d7⟩:=a0m c;obtain⟨f0,f1,f2,f3,f4,f5⟩:=b0j bx;obtain⟨kd,G⟩:=qnm x.n.kind;rw[<-G] at f1;have am:=qh (aI u (aI a (aI t c)));have bF:=qh G;clear a7 V E I aX bB u a5 a t c bx bA bq e2 ar;by_cases hk:kd=1
 ·subst hk;have aF:x.names=[]:=HX.out.no (by rw[<-G];decide);obtain rfl:count=0:=by rw[af.out,aF];rfl
  have bp:=qh aF;clear aF G;go_wp2_with fail;go_ret2;obtain⟨u,a,t,c⟩:=am.out;refine⟨g,0,rfl,⟨by rw[<-HH.out];exact aT.out.2,_,_,c,t,fun aO=>?_,fun _=>⟨rfl,bp.out⟩⟩,?_,a⟩
  ·exact absurd (bF.out.trans aO) (by decide)
  ·simpa[bp.out,a1d] using u
 ·have aO:kd=2:=by
   rcases HX.out.kd with h1 | h1
   ·exact absurd (G.trans h1) hk
   ·exact G.trans h1
  subst aO;have bR:=qh G.symm;clear hk G;obtain⟨u,a,t,c⟩:=am.out;have bw:=ltH c;have bT:=a0e c 7;clear u a t c d0 d1 d2 d3 d4 d5 d6 f0 f2 f3 f4 f5;go_upto_region 9 with(rw[run_makeMap])
  obtain⟨u,a,t,c⟩:=am.out;have aY:H<=g:=aT.out.2;obtain⟨nb,ag⟩:=qnm w6.heap.size;rw[<-ag];obtain⟨w7,a6⟩:=qnm (w6.setCell ⟨g,7,none⟩ (.map (some nb)));have aq:Chg (fun k=>k=g) w6 w7:=by rw[a6];exact a0x w6 g 7 _
  have aA:w7.heap[g]? =some (.cells (itC x.n (.slice X bn D) (.map (some nb))) a17 (0,0)):=by rw[a6];exact a0f c
  have bj:w7.heap.size=nb:=by rw[a6,ag];simp[World.setCell]
  rw[<-a6];obtain⟨w8,ad⟩:=qnm (w7.alloc (.map #[] 0));have a3:=qba ad;have ac:MapAt a0L Tryz.prog a3c w8 nb (vals a3v (x.names.take 0)):=by rw[ad,<-bj];exact MapAt.made a0L w7
  rw[<-ad];have au:=(a3.block g (ltH aA)).trans aA;have b6:g<nb:=by rw[ag];exact ltH c
  have al:RC P q rb w8 (a1d x.names ++L):=(u.chg aq (fun k hk e=>by
   rcases hk with hk | hk
   ·exact HG.out.1 (by rw[<-hk,<-e])
   ·have:=bf.out k hk;have:=HH.out;omega)).below a3
  have ak:Own w8 W.heap.size (.slice X bn D) x.b:=by
   refine(t.chg0 aq (fun k hk e C hC=>?_)).below a3;subst e;rw[c] at hC;injection hC with hC;injection hC with _ hC;exact absurd hC (by decide)
  have S:Chg (fun k=>k=q) W w8:=(a.trans aq (fun k hk e=>by have:=HH.out;omega)).step a3;have aw:H<=nb:=by omega
  have bo:=qh (aI au (aI al (aI ak (aI ac S))));have ai:=qh (aI b6 (aI aw aY));clear bw bT a6 aq bj ag aA b6 ad a3 au al ak ac S aw u a t c aY am d7 f1;go_wp2_with fail;go_loopw [8,46] (fun l i wr=>∃j:Nat,j<=count/\i= .int .i64 (j:Int)/\l= .string (a0c (b2c (x.names.take j)))/\wr.heap[g]? =some (.cells (itC x.n (.slice X bn D) (.map (some nb))) a17 (0,0))/\RC P q rb wr (a1d (x.names.drop j) ++L)/\Own wr W.heap.size (.slice X bn D) x.b/\MapAt a0L Tryz.prog a3c wr nb (vals a3v (x.names.take j))/\Chg (fun k=>k=q) W wr) (fun _ i _=>count - (intOf i).toNat);case atStart=>
   obtain⟨au,al,ak,ac,S⟩:=bo.out;exact⟨0,AH _,rfl,rfl,au,by simpa using al,ak,ac,S⟩
  case round=>
   obtain⟨j,hj,rfl,rfl,hz,hR,ho,hm,N⟩:=hrel;clear bo;by_cases b4:j<count
   ·have U:j<x.names.length:=by rw[<-af.out];exact b4
    have aE:=Bm U;have a8:=BH U;have hp:=HX.out.good _ (AE U);have F:=b26 HX.out.rise U;generalize x.names[j]'U=p at aE a8 hp F;obtain⟨s,kk⟩:=p;simp only at hp F;obtain⟨m,bU⟩:=hp;have bW:=a4U m;rw[aE,a86] at hR;simp only[List.append_assoc] at hR;obtain⟨LT,aK⟩:=qnm (a1d (x.names.drop (j+1)) ++L);rw[<-aK] at hR;have bg:=qh (a5L s hR (by omega));obtain⟨la,aG⟩:=qnm (b2c (x.names.take j));have ay:bytesBefore la s=true:=by
     rw[aG];unfold b2c;cases hq:(x.names.take j).getLast? with
     | none=>exact b2y s (b6i m)
     | some y=>exact F y (BF hq)
    rw[<-aG];have b9:=qh (b8H s la ay);have a0:=b3C s kk (x.names.take j) F;rw[a8] at a0;have bP:=qh (aI a0 a8);have a2:b2c (x.names.take (j+1))=s:=by rw[<-a8,b2b]
    have b5:=qh (aI a2 aK);have b0:(vals a3v (x.names.take j)).length<=1000000:=by rw[a1p,Av];omega
    have bS:=qh b0;have bJ:=qh m;have b1:=qh (aI hz (aI ho (aI hm N)));have e1:(0:Int)<=(j:Int):=by omega
    have e2:(j:Int)<(count:Int):=by omega
    obtain⟨j2,R⟩:=qnm (j+1);have e3:IntKind.i64.wrap ((j:Int)+1)=(j2:Int):=by rw[Ak _ (by omega)];omega
    have HJ:=qh R;clear U aE a8 F m hR aK aG ay a0 a2 b0 hz ho hm N R hj;go_wp2_with fail;refine bg.out.mono ?_;rintro e wa ⟨⟨va,rfl,bt⟩,bh,a9⟩;obtain⟨sl,aZ⟩:∃sl,s.length=sl:=⟨_,rfl⟩
    obtain⟨aa,ka,rfl,aQ⟩:=bt.bsn aZ;have hs:=a09 aQ;obtain⟨hz,ho,hm,N⟩:=b1.out;have bQ:=bE;have O:=(a9.block g (ltH hz) HG.out.1).trans hz;have f:=a9.own ho (fun k hk e=>by have:=ho.ge k hk;have:=HH.out;omega);have Y:MapAt a0L Tryz.prog a3c wa nb (vals a3v (x.names.take j)):=hm.same a0L (a9.block nb hm.lt (by have:=ai.out;omega));have z:=N.two a9;have bG:=qh (a2B kk (L:=LT) (bh.below (Ab _ _).drew) bU);have bu:=qh (aI O (aI f (aI Y z)));have c7:wa.drew.cell? ⟨g,7,none⟩=some (.map (some nb)):=a0a O 7;have bO:=qh c7;clear hz ho hm N O f Y z bt aQ bh a9 b1 bg bQ;go_upto_region 13 with fail
    refine a0h (fun i=>[0,1,2,3,4,5,6].contains i) (fun w'=>w'.cell? ⟨g,7,none⟩=some (.map (some nb))) (by kernel_rfl) ?_ (fun hHeld=>?_)
    ·exact c7
    refine qtk 0 51 ?_;refine qtk 1 52 ?_;refine qtk 2 53 ?_;refine qtk 3 54 ?_;refine qtk 4 55 ?_;refine qtk 5 56 ?_;refine qone 6 fun K hK=>?_
    go_simp;refine(bG.out).mono ?_;rintro e wb ⟨rfl,b3,az⟩;have hHeld:(fun w'=>w'.cell? ⟨g,7,none⟩=some (.map (some nb))) wb:=(az.cell (o:=7) (ltH bu.out.1) HG.out.1).trans hHeld;go_wp2_with fail;refine hK.out _ _ (fun _=>hHeld) ?_;clear hK K;obtain⟨O,f,Y,z⟩:=bu.out;have A:Chg (fun k=>k=q) wa wb:=((Chg.refl (fun k=>k=q) wa).drew).two az;have aJ:=(A.block g (ltH O) HG.out.1).trans O;have aU:=A.own f (fun k hk e=>by have:=f.ge k hk;have:=HH.out;omega);have aD:MapAt a0L Tryz.prog a3c wb nb (vals a3v (x.names.take j)):=Y.same a0L (A.block nb Y.lt (by have:=ai.out;omega));obtain⟨wc,aR,bb,bs⟩:=aD.put a0L a3f a1y bS.out (b8s s (by unfold maxLen;omega)) (.int .i64 (kk:Int));have B:=a0E bs;have bI:=qh (show wc.heap[g]? =some (.cells (itC x.n (.slice X bn D) (.map (some nb))) a17 (0,0))/\Own wc W.heap.size (.slice X bn D) x.b/\MapAt a0L Tryz.prog a3c wc nb (vals a3v (x.names.take (j+1)))/\Chg (fun k=>k=q) W wc/\RC P q rb wc LT from by
     have hn:=ai.out;have hh:=HH.out;refine⟨(B.block g (ltH aJ) (by omega)).trans aJ,aU.chg0 B (fun k hk e C hC=>?_),?_,(z.two A).trans B (fun k hk e=>by omega),b3.chg B (fun k hk e=>?_)⟩
     ·obtain⟨es,cl,bH,_⟩:=aD;rw[e,bH] at hC;injection hC with hC;cases hC
     ·have e5:=a3W a0L a3v (x.names.take j) s kk;rw[bP.out.1] at e5;rw[<-e5];exact bb
     ·rcases hk with hk | hk
      ·omega
      ·have:=bf.out k hk;omega)
    clear O f Y z A aJ aU aD bb bs B b3 az;refine qone 7 fun K hK=>?_
    refine a3r (by rfl) (.tmp 54) (.tmp 55) (.tmp 57) 231 rfl _ _ _ (by rfl) (by rfl) (by rfl) aR ?_;refine hK.out _ _ (fun h=>by simp at h) ?_;clear hK K;refine qdon ?_;clear hHeld aR;obtain⟨aC,aW,bz,ax,an⟩:=bI.out;have aj:=qh (b1e s (by omega) wc);rw[bJ.out] at aj;have ab:=qh (b0b an);have ao:=qh (b3A an);have bi:=qh (show ∀w',Below wc.heap.size wc w'->w'.heap[g]? =some (.cells (itC x.n (.slice X bn D) (.map (some nb))) a17 (0,0))/\RC P q rb w' LT/\Own w' W.heap.size (.slice X bn D) x.b/\MapAt a0L Tryz.prog a3c w' nb (vals a3v (x.names.take (j+1)))/\Chg (fun k=>k=q) W w' from fun w' hb=>
     ⟨(hb.block g (ltH aC)).trans aC,an.below hb,aW.below hb,bz.below a0L hb,ax.step hb⟩)
    obtain⟨LN,aM⟩:=qnm LT.length;rw[<-aM] at ab;have hE:LN=0->LT=[]:=fun h=>Ax.1 (by rw[<-aM];exact h)
    have bc:=qh hE;clear aC aW bz ax an aM hE bO c7;go_upto_region 14 with fail
    simp only[Act.put,List.getElem_toArray,List.getElem_cons_succ,List.getElem_cons_zero];go_cut [75] (fun v wx=>v= .bool false/\Below wc.heap.size wc wx);case first=>
     by_cases h0:LN=0
     ·subst h0;rw[Ah (bc.out rfl)] at ao;go_wp2_with fail;refine ab.out.mono ?_;rintro e w' ⟨rfl,rfl⟩;go_wp2_with fail;refine ao.out.mono ?_;rintro e w' ⟨rfl,rfl⟩;go_wp2_with fail;refine aj.out.mono ?_;rintro e wd ⟨rfl,d⟩;have aB:=qh d;clear d;go_wp2_with fail;go_meet;exact⟨An Value.bool b9.out,aB.out⟩
     ·have e4:((LN:Int) == 0)=false:=by rw[Al];omega
      clear ao;go_wp2_with fail;refine ab.out.mono ?_;rintro e w' ⟨rfl,rfl⟩;go_wp2_with fail;refine aj.out.mono ?_;rintro e wd ⟨rfl,d⟩;have aB:=qh d;clear d;go_wp2_with fail;go_meet;exact⟨An Value.bool b9.out,aB.out⟩
    case rest=>
     obtain⟨rfl,d⟩:=hcut;have bL:=qh (bi.out _ d);clear d ao aj ab bi bc;go_wp2_with fail;go_roundw;case rel=>
      obtain⟨k1,k2,k3,D,k5⟩:=bL.out;have R:=HJ.out;refine⟨j2,by omega,rfl,?_,k1,?_,k3,?_,k5⟩
      ·rw[R,b5.out.1]
      ·rw[R,<-b5.out.2];exact k2
      ·rw[R];exact D
     case measure=>
      have R:=HJ.out;show count - (j2:Int).toNat<count - (j:Int).toNat;omega
   ·obtain rfl:j=count:=by omega
    clear b4;have hd:x.names.drop j=[]:=Bh (by rw[af.out];exact Aa _);have ht:x.names.take j=x.names:=Am (by rw[af.out];exact Aa _);rw[hd] at hR;rw[ht] at hm⊢;have HF:=qh (aI hz (aI hR (aI ho (aI hm N))));clear hz hR ho hm N hd ht;go_wp2_with fail;go_ret2;obtain⟨k1,k2,k3,D,k5⟩:=HF.out;have hh:=HH.out;have hn:=ai.out;refine⟨g,nb,rfl,⟨by omega,_,_,k1,k3,fun _=>⟨rfl,by omega,D⟩,fun bM=>absurd bR.out bM⟩,?_,k5⟩;simpa[a1d] using k2
end
section
open Go.RowKit Go.ChangeMaps Go.MapKept Go.Maps
def b5q(a:Nat->List Nat)(T:Tr)(k:Nat):List Nat:=match getK k T with | some y=>if y.n.kind=2 then a k else[] | none=>[]
def cntN(T:Tr):Nat->Nat->List Nat
 | 0,_=>[]
 | f+1,i=>match getK i T with | some x=>x.names.flatMap fun p=>p.2 :: b5q (cntN T f) T p.2 | none=>[]
def Deep(T:Tr):Nat->Nat->Prop
 | 0,i=>∃x,getK i T=some x/\x.n.kind=2/\x.names=[]
 | f+1,i=>∃x,getK i T=some x/\x.n.kind=2/\∀p∈x.names,p.2≠0/\∃y,getK p.2 T=some y/\(y.n.kind=2->Deep T f p.2)
def cntK(K:List (Nat×Nat))(k:Nat):Nat:=(getK k K).getD 0
def b2D(_:Nat)(n:Nat):Value:=.int .i64 (n:Int)
theorem a8v(K:List (Nat×Nat))(k n j:Nat):cntK (a1w numS k n K) j=if j=k then n else cntK K j:=by
 unfold cntK;rw[a1v];by_cases h:j=k
 ·rw[Ah h,Ah h];rfl
 ·rw[Ag h,Ag h]
theorem b6b(K:List (Nat×Nat))(k n c:Nat)(h:∀p∈K,p.1<=c)(hk:k<=c):∀p∈a1w numS k n K,p.1<=c:=by
 have b:∀(L:List (Nat×Nat)) (x:Nat×Nat),(∀p∈L,p.1<=c)->x.1<=c->∀p∈a6O numS x L,p.1<=c:=by
  intro L x
  induction L with
  | nil=>intro _ d p a;simp only[a6O,AQ] at a;subst a;exact d
  | cons y r f=>
   intro e d p a;unfold a6O at a;split at a
   ·rcases AP.1 a with rfl | a
    ·exact d
    ·exact e p a
   ·rcases AP.1 a with rfl | a
    ·exact e _ (AL ..)
    ·exact f (fun q g=>e q (AI _ g)) d p a
 exact b _ (k,n) (fun p a=>h p (Ck.1 a).1) hk
def a3m(g:List UInt8×Nat->List Nat)(left:Lit->Bool)(l:List (List UInt8×Nat))(k:Nat):Nat:=(l.map fun p=>if left (a0L.lit p.1)=true then 0 else(g p).count k).sum
theorem b4p(g:List UInt8×Nat->List Nat)(left:Lit->Bool)(l:List (List UInt8×Nat))(k:Nat)(h:∀z,left z=false):a3m g left l k=(l.flatMap g).count k:=by
 unfold a3m;rw[List.count_flatMap];congr 1;refine AY fun p _=>?_
 rw[h];rfl
theorem b2m(g:List UInt8×Nat->List Nat)(left:Lit->Bool)(l:List (List UInt8×Nat))(k:Nat)(h:∀p∈l,left (a0L.lit p.1)=true):a3m g left l k=0:=by
 unfold a3m
 induction l with
 | nil=>rfl
 | cons y r a=>
  rw[Au,Ci,Ah (h y (AL ..)),a (fun p b=>h p (AI _ b))]
theorem b6m(g:List UInt8×Nat->List Nat)(left:Lit->Bool)(l:List (List UInt8×Nat))(k:Nat):a3m g left l k<=(l.flatMap g).count k:=by
 unfold a3m;rw[List.count_flatMap]
 induction l with
 | nil=>simp
 | cons y r a=>
  rw[Au,Ci,Au,Ci];have:(if left (a0L.lit y.1)=true then 0 else(g y).count k)<=(List.count k ∘ g) y:=by
   split
   ·omega
   ·exact Aa _
  omega
theorem a7E(g:List UInt8×Nat->List Nat)(left:Lit->Bool)(k:Nat)(s:List UInt8)(v:Nat):∀(l:List (List UInt8×Nat)),l.Pairwise (fun p q=>p.1≠q.1)->(s,v)∈l->left (a0L.lit s)=true->
  a3m g (fun z=>left z && !z.sameKey (a0L.lit s)) l k=a3m g left l k+(g (s,v)).count k
 | [],_,h,_=>by simp at h
 | y :: r,hu,h,hl=>by
  obtain⟨f,m⟩:=Bc.1 hu;have j:∀q:List (List UInt8×Nat),(∀p∈q,p.1≠s)->a3m g (fun z=>left z && !z.sameKey (a0L.lit s)) q k=a3m g left q k:=fun q i=>by
   unfold a3m;congr 1;refine AY fun p c=>?_
   simp only[a1q,Aq (i p c),B5,Cu]
  have d:∀(b:Lit->Bool) (z:List UInt8×Nat) (q:List (List UInt8×Nat)),a3m g b (z :: q) k=(if b (a0L.lit z.1)=true then 0 else(g z).count k)+a3m g b q k:=fun b z q=>by unfold a3m;rw[Au,Ci]
  rw[d,d];rcases AP.1 h with e | h
  ·subst e;rw[j r (fun p c e=>f p c e.symm)];simp only[a1q,decide_true,Bool.not_true,Bool.and_false,AV,Cv,hl,BR];omega
  ·have a:=f _ h;simp only at a;rw[a7E g left k s v r m h hl];simp only[a1q,Aq a,B5,Cu];omega
theorem a2E{a:Value}{b:Lit}(h:keyOf Tryz.prog a3c a=some b):∃s:ByteArray,a= .string s/\b= .string s.data.toList:=by
 simp only[keyOf,Tryz.underlying9,mapKey] at h;split at h <;>simp_all
theorem a6E{L:List (List UInt8×Value)}{x:ByteArray}{c:Value}{e:Lit}{y:DataW Value×List MemPlace}(hk:keyOf Tryz.prog a3c (.string x)=some e)(i:RH c=some y)(a:∀zd,(a3o a0L L).atKey e zd=y.1):
  ∃s:List UInt8,x=a0c s/\e=a0L.lit s/\getK s L=some c:=by
 obtain⟨x',d,rfl⟩:=a2E hk;injection d with d
 subst d;simp only[RH,BZ] at i;subst i;refine⟨x.data.toList,by unfold a0c;rfl,rfl,?_⟩;have h3:=a5h a0L x.data.toList (.held (.bool true)) L;have f:=a5h a0L x.data.toList (.held (.bool false)) L;have b:=(a (.held (.bool true))).symm.trans h3;have h:=(a (.held (.bool false))).symm.trans f;clear h3 f a;generalize getK x.data.toList L=g at b h⊢;cases g with
 | none=>exact absurd (b.symm.trans h) (by simp)
 | some v=>simp only[DataW.held.injEq] at b;rw[b]
variable {L B t mb c cb : Nat} {F G : Nat → Nat} {T : Tr} {w0 : World}
def b43(w0:World)(t cb c:Nat)(T:Tr)(f:Nat):Prop:=∀(i:Nat) (K:List (Nat×Nat)) (w:World),Below w0.heap.size w0 w->MapAt numS Tryz.prog TI64 w cb (vals b2D K)->(∀p∈K,p.1<=c)->Deep T f i->
 (∀k,cntK K k+(cntN T f i).count k<=1000000)->(∀k y,getK k T=some y->y.n.kind=2->cntK K k+(cntN T f i).count k<=1)->
 Calls Tryz.prog 345 #[.pointer (some ⟨t,0,none⟩),.int .i64 (i:Int),.int .i64 ((8 - f:Nat):Int),.map (some cb)] w fun e w'=>e= .returned (.bool true)/\
  (∃a,MapAt numS Tryz.prog TI64 w' cb (vals b2D a)/\(∀p∈a,p.1<=c)/\∀k,cntK a k=cntK K k+(cntN T f i).count k)/\Chg (fun k=>k=cb) w w'
theorem Deep.dir{f i:Nat}(h:Deep T f i):∃x:It,getK i T=some x/\x.n.kind=2/\∀p∈x.names,f≠0/\p.2≠0/\∃y,getK p.2 T=some y/\(y.n.kind=2->∀b,f=b+1->Deep T b p.2):=by
 cases f with
 | zero=>
  obtain⟨x,c,d,h3⟩:=h;exact⟨x,c,d,fun p a=>by rw[h3] at a;simp at a⟩
 | succ f=>
  obtain⟨x,c,d,h3⟩:=h;refine⟨x,c,d,fun p a=>?_⟩;obtain⟨g,y,j,k⟩:=h3 p a;exact⟨by omega,g,y,j,fun hk b e=>by cases e;exact k hk⟩
theorem b4E{f i:Nat}(h:Deep T f i){x:It}(b:getK i T=some x):cntN T f i=x.names.flatMap fun(p:List UInt8×Nat)=>p.2 :: b5q (cntN T (f - 1)) T p.2:=by
 cases f with
 | zero=>
  obtain⟨x',a,c,h3⟩:=h;rw[b] at a;injection a with a
  subst a;rw[h3];rfl
 | succ f=>
  simp only[cntN,b];rfl
theorem b0G:Tryz.prog.underlying 425=some (.map TI64 TI64):=Tryz.underlying425
theorem a8t{w:World}{K:List (Nat×Nat)}(h:MapAt numS Tryz.prog TI64 w cb (vals b2D K))(k:Nat)(hk:k<=1000000000):
  (Instr.lookup 425 (.map (some cb)) (.int .i64 (k:Int)) false).run Tryz.prog w= .ok (.int .i64 (cntK K k:Int)) w:=by
 have:=h.look numS a1m b0G (a7O w) (a9I k hk);rw[a1c] at this;rw[this];unfold cntK;cases getK k K <;>rfl
theorem a7t(h:TreeIn w0 L B t mb F G T)(ok:TrOk c T)(hc:c<=60000)(ae:w0.heap.size<=cb)(f:Nat)(hf:f<=8)(av:∀f',f=f'+1->b43 w0 t cb c T f'):b43 w0 t cb c T f:=by
 intro i K w hb hK ai hD a3 a6;obtain⟨x,hx,l,aL⟩:=hD.dir;have R:=b4E hD hx;obtain⟨g,hg⟩:∃g:List UInt8×Nat->List Nat,g=fun p=>p.2 :: b5q (cntN T (f - 1)) T p.2:=⟨_,rfl⟩
 rw[<-hg] at R;rw[R] at a3 a6⊢;have ah:=h.below hb;have hi:=(ok.nd i x hx).1;have c0:=ah.cell0;have b6:=ah.hit hx (by omega);obtain⟨_,v,m,h2,_,h4,_⟩:=ah.item i x hx;obtain⟨rfl,_,hM⟩:=h4 l;have N:x.names.Pairwise (fun p q=>p.1≠q.1):=hM.srising.imp (fun {a b} aV e=>by rw[e] at aV;have:=a1L _ _ aV;exact absurd this (B3 _));obtain⟨_,_,_,_,_,_,_,d7⟩:=a0m h2;have aq:∀W,Below w0.heap.size w0 W->G i<w0.heap.size:=fun _ _=>by
  obtain⟨_,v',m',k2,_,k4,_⟩:=h.item i x hx;exact(k4 l).2.2.lt
 have am:=aq w hb;obtain⟨n,hn⟩:=qnm ((vals a3v x.names).length);have HT:=qh (aI h ok);have HP:=qh (aI aL (aI N (aI hg av)));have HL:=qh (aI a3 a6);have HB:=qh (aI hb (aI hK ai));have HM:=qh (aI hM hn);have HC:=qh (aI ae am);obtain⟨d,hd⟩:=qnm (8 - f);rw[<-hd];have aW:=qh (aI hd hf);clear h ok aL N a3 a6 hb hK ai R hD h2 h4 ah hx l aq hM hn ae am av hd hi hg;go_enter Tryz.func345,Tryz.ntmps345;go_wp2_with (first
  | (at_range;refine wpList_range_own _ rfl _ 231 rfl a3c _ a3f a1y RH (G i) n _ rfl (by rw[HM.out.2];exact HM.out.1) ?_;intro wa a4 ad aH)
  | fail)
 obtain⟨r0,a1⟩:=qnm w.heap.size;rw[<-a1] at a4⊢;have af:=qh (aI a1 (aI ad aH));have ap:=qh a4;clear a1 ad aH a4 c0 b6 d7;go_frame;go_loopw [10,11,12] (fun _ _ _ wx=>∃(left:Lit->Bool) (aT:Nat) (H:List (Nat×Nat)),wx.ranges Tryz.prog a3c RH (G i) r0 n (a3o a0L (vals a3v x.names)) left aT/\MapAt numS Tryz.prog TI64 wx cb (vals b2D H)/\(∀p∈H,p.1<=c)/\
   (∀k,cntK H k=cntK K k+a3m g left x.names k)/\Chg (fun k=>k=cb) w wx/\r0<wx.heap.size)
  (fun _ _ _ wx=>wx.rangeLeft (G i) r0)
 case atStart=>
  obtain⟨a1,ad,aH⟩:=af.out;obtain⟨hb,hK,ai⟩:=HB.out;have hb0:Below w.heap.size w wa:=(Ab _ w).grown ad (Aa _) (fun k hk=>by cases hk);refine⟨_,_,K,ap.out,hK.below numS hb0,ai,fun k=>?_,Chg.of_below hb0 _,by omega⟩;rw[b2m]
  ·rfl
  ·intro p hp;rw[a38,a1c,a0s HP.out.2.1 (k:=p.1) (v:=p.2) hp];rfl
 case round=>
  obtain⟨left,aT,H,P,a8,Q,C,an,Y⟩:=hrel;clear ap;go_wp2_with (first
   | (at_next;refine wpList_next_ranges _ rfl _ rfl a3c a3f RH Value.string (fun v=>v) (fun bi kl hk=>by obtain⟨x,rfl,_⟩:=a2E hk;exact⟨x,rfl⟩) (fun v _ _=>⟨v,rfl⟩) (G i) r0 n _ _ _ rfl P ?_ ?_)
   | fail)
  ·intro _ b3;have HF:=qh (show(∃K',MapAt numS Tryz.prog TI64 wr cb (vals b2D K')/\(∀p∈K',p.1<=c)/\∀k,cntK K' k=cntK K k+(x.names.flatMap g).count k)/\Chg (fun k=>k=cb) w wr from
    ⟨⟨H,a8,Q,fun k=>by rw[C,b4p g left x.names k b3]⟩,an⟩)
   clear P a8 Q C an b3 Y;go_wp2_with fail;go_ret;exact⟨rfl,HF.out.1,HF.out.2⟩
  ·intro xk cv kl y ps w1 ar ax b1 aX aY aw V a0 aF ba;obtain⟨s,rfl,rfl,aB⟩:=a6E (y:=(y,ps)) ax aX aY;rw[a1c] at aB;obtain⟨kk,b8,rfl⟩:=AU.1 aB;have a9:=a2i b8;obtain⟨b0,aP,y2,u,a2⟩:=HP.out.1 _ a9;simp only at aP u a2;have aE:Chg (fun k=>k=r0) wr w1:=⟨a0.os,a0.tape,a0.output,a0.size,fun k hk N=>a0.block k hk (fun e=>N (by injection e))⟩
   have a1:=af.out.1;obtain⟨ae,am⟩:=HC.out;have aM:=HB.out.2.1.lt;have a7:Chg (fun k=>k=cb) w w1:=an.trans aE (fun k hk e=>by omega);have az:Below w0.heap.size w0 w1:=HB.out.1.trans (a7.below HB.out.1.size (fun k _ e=>by omega));have ag:MapAt numS Tryz.prog TI64 w1 cb (vals b2D H):=a8.same numS (aE.block cb a8.lt (by omega));have aC:=HT.out.1.below az;have aK:=(HT.out.2.nd kk y2 u).1;have c0:=aC.cell0;have bh:=aC.hit2 u (by omega);have aZ:=a8t ag kk (by omega);have bc:H.length<=100000:=by
    have:=a7d (A:=H) (n:=c+1) (by
     have:=ag.rising;unfold vals at this;rw[A2] at this;exact this) (fun p hp=>by have:=Q p hp;omega)
    omega
   obtain⟨m1,aj⟩:=qnm (cntK H kk+1);have J:∀k,a3m g (fun z=>left z && !z.sameKey (a0L.lit s)) x.names k=a3m g left x.names k+(g (s,kk)).count k:=fun k=>a7E g left k s kk x.names HP.out.2.1 a9 b1
   have O:∀k,a3m g (fun z=>left z && !z.sameKey (a0L.lit s)) x.names k<=(x.names.flatMap g).count k:=fun k=>b6m g _ x.names k
   have E:∀k,(g (s,kk)).count k=(if kk=k then 1 else 0)+(b5q (cntN T (f - 1)) T kk).count k:=fun k=>by
    rw[HP.out.2.2.1];show List.count k (kk :: b5q (cntN T (f - 1)) T kk)=_;rw[List.count_cons];by_cases e:kk=k
    ·simp[e];omega
    ·simp[e]
   have bg:m1<=1000000:=by
    have h1:=J kk;have h2:=O kk;have h3:=HL.out.1 kk;have h4:=E kk;rw[Ah rfl] at h4;rw[aj,C];omega
   have e1:IntKind.i64.wrap ((cntK H kk:Int)+1)=(m1:Int):=by rw[Ak _ (by omega)];omega
   obtain⟨w2,aU,S,aN⟩:=ag.put numS a1m b0G (by rw[a1p];omega) (a9I kk (by omega)) (.int .i64 (m1:Int));have ev:=a3W numS b2D H kk m1;have ac:MapAt numS Tryz.prog TI64 w2 cb (vals b2D (a1w numS kk m1 H)):=by rw[<-ev];exact S
   have al:=a0E aN;have o:Chg (fun k=>k=cb) w w2:=a7.trans al (fun k hk e=>e);have D:Below w0.heap.size w0 w2:=HB.out.1.trans (o.below HB.out.1.size (fun k _ e=>by omega));have b2:=HT.out.1.below D;obtain⟨_,v2,bk,b5,_⟩:=b2.item kk y2 u;obtain⟨_,q1,_⟩:=a0m b5;have aS:=a8t ac kk (by omega);rw[show cntK (a1w numS kk m1 H) kk=m1 by rw[a8v,Ah rfl]] at aS;have j:=aw.kept al.toGrown (by intro e;injection e with e;omega) (by intro e;injection e with e;omega);have U:∀k,cntK (a1w numS kk m1 H) k=cntK K k+a3m g left x.names k+(if kk=k then 1 else 0):=fun k=>by
    rw[a8v];by_cases e:k=kk
    ·subst e;rw[Ah rfl,Ah rfl,aj,C]
    ·rw[Ag e,Ag (fun e'=>e e'.symm),C];omega
   have r:=b6b H kk m1 c Q aK;obtain⟨kd,l⟩:=qnm y2.n.kind;rw[<-l] at q1;have aa:=qh (aI P (aI j (aI ac (aI r (aI o (aI V (aI aF Y)))))));have ay:r0<w2.heap.size:=by have:=al.size;omega
   have aG:=qh (aI b0 (aI ay aj));have aJ:=qh (aI J (aI O (aI E (aI U D))));have aA:=qh (aI l (aI u a2));have bd:((kk:Int) == 0)=false:=by rw[Al];omega
   have bj:((d:Int) == 8)=false:=by rw[Al];have:=aW.out;omega
   obtain⟨cx,aQ⟩:=qnm (cntK H kk);rw[<-aQ] at aZ e1;unfold a3v at ba⊢;clear P aw a0 aF V aY aX aB ax b1 b8 a9 b0 aP u a2 aE a1 ae am aM a7 az ag aC aK bc aj J O E ev S ac al aN o D b2 b5 j U r l a8 Q C an Y aQ ay;by_cases ao:kd=2
   ·subst ao;obtain⟨f',aD⟩:∃f',f=f'+1:=⟨f - 1,by have:=aG.out.1;omega⟩
    have b7:f - 1=f':=by omega
    obtain⟨J,O,E,U,D⟩:=aJ.out;obtain⟨_,_,S,r,_⟩:=aa.out;obtain⟨l,u,a2⟩:=aA.out;have au:b5q (cntN T (f - 1)) T kk=cntN T f' kk:=by
     unfold b5q;rw[u,b7];exact Ah l.symm
    rw[au] at E;have I:∀k,cntK (a1w numS kk m1 H) k+(cntN T f' kk).count k=cntK K k+a3m g (fun z=>left z && !z.sameKey (a0L.lit s)) x.names k:=fun k=>by
     rw[U,J,E];omega
    have ab:=qh (HP.out.2.2.2 f' aD kk (a1w numS kk m1 H) w2 D S r (a2 l.symm f' aD) (fun k=>by rw[I];have:=O k;have:=HL.out.1 k;omega) (fun k y h1 h2=>by rw[I];have:=O k;have:=HL.out.2 k y h1 h2;omega));obtain⟨d2,b4⟩:=qnm (8 - f');rw[<-b4] at ab;have e4:IntKind.i64.wrap ((d:Int)+1)=(d2:Int):=by have:=aW.out;rw[Ak _ (by omega)];omega
    have e5:¬(1:Int)<(m1:Int):=by
     have h1:=HL.out.2 kk y2 u l.symm;have h2:=I kk;have h3:=O kk;rw[a8v,Ah rfl] at h2;omega
    have b9:=qh I;clear b7 J O E U D S r l u a2 au I b4 aD;go_wp2_with (at_mapUpdate;refine a1b rfl _ _ _ _ (.inl rfl) _ _ _ rfl rfl rfl aU ?_);refine ab.out.mono ?_;rintro e w3 ⟨rfl,⟨K3,ak,Z,X⟩,M⟩;have aR:=qh (aI ak (aI Z (aI X M)));clear ak Z X M;go_wp2_with fail;go_roundw;case rel=>
     obtain⟨_,j,_,_,o,_⟩:=aa.out;obtain⟨ak,Z,X,M⟩:=aR.out;have N:G i≠cb:=by have:=HC.out;omega
     have a5:r0≠cb:=by have:=HB.out.2.1.lt;have:=af.out.1;omega
     refine⟨_,ar,K3,j.kept M.toGrown (by intro e;injection e with e;exact N e) (by intro e;injection e with e;exact a5 e),ak,Z,fun k=>by rw[X,b9.out],o.two M,Ai aG.out.2.1 M.size⟩
    case measure=>
     obtain⟨P,j,_,_,_,V,_,_⟩:=aa.out;obtain⟨_,_,_,M⟩:=aR.out;have N:G i≠cb:=by have:=HC.out;omega
     have a5:r0≠cb:=by have:=HB.out.2.1.lt;have:=af.out.1;omega
     have aO:=j.kept M.toGrown (by intro e;injection e with e;exact N e) (by intro e;injection e with e;exact a5 e);rw[aO.left_eq,P.left_eq];omega
   ·have bf:(kd == 2)=false:=by rw[Al];exact ao
    have bb:=qh ao;clear ao;go_wp2_with (at_mapUpdate;refine a1b rfl _ _ _ _ (.inl rfl) _ _ _ rfl rfl rfl aU ?_);go_roundw;case rel=>
     obtain⟨_,j,S,r,o,_,aF,Y⟩:=aa.out;obtain⟨J,_,E,U,_⟩:=aJ.out;refine⟨_,ar,_,j,S,r,fun k=>?_,o,aG.out.2.1⟩;rw[J,E,U];have:b5q (cntN T (f - 1)) T kk=[]:=by
      unfold b5q;rw[aA.out.2.1];exact Ag (by rw[<-aA.out.1];exact bb.out)
     rw[this];simp;omega
    case measure=>
     obtain⟨P,j,_,_,_,V,_,_⟩:=aa.out;rw[j.left_eq,P.left_eq];omega
theorem a9d(h:TreeIn w0 L B t mb F G T)(b:TrOk c T)(d:c<=60000)(a:w0.heap.size<=cb):∀(f:Nat),f<=8->b43 w0 t cb c T f
 | 0,hf=>a7t h b d a 0 hf (fun g e=>by omega)
 | f+1,hf=>a7t h b d a (f+1) hf (fun g e=>by cases e;exact a9d h b d a f (by omega))
end
end Go.Proofs.YtbemfdcjieakdaaGreatDoor
