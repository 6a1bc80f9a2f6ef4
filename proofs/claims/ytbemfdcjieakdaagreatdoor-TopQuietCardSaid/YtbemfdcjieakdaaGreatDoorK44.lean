/- SnTake; SnCat. -/
import Derived.Test.YtbemfdcjieakdaaGreatDoorK43
set_option maxRecDepth 100000
set_option maxHeartbeats 8000000
namespace Go.Proofs.YtbemfdcjieakdaaGreatDoor
section
open Go.RowKit Go.ChangeMaps Go.MapKept
theorem a5Q{w:World}{g:Nat}{C C':Array Value}{c ty':TypeId}{d b:Nat×Nat}(h:w.heap[g]? =some (.cells C c d))(a:w.heap[g]? =some (.cells C' ty' b)):c=ty':=by
 rw[h] at a;injection a with a;injection a with _ a
theorem a4m{w w':World}{B size n:Nat}{e:TypeId}{v:Value}{xs:List Value}{Q:Nat->Prop}(h:w.ownsRow B e size v n xs)(k:Chg Q w w')(j:∀g C f,w.heap[g]? =some (.cells C e f)->¬Q g):w'.ownsRow B e size v n xs:=
 ⟨h.1,h.2.imp id (fun⟨g,cap,b,d,i,a,c⟩=>⟨g,cap,b,d,i,(k.block g (ltH a) (j g _ _ a)).trans a,c⟩)⟩
variable {w : World} {L B C t sn c : Nat} {S : SnS} {T : Tr}
def b1u(w:World)(L B c sn:Nat)(e:Ending)(w':World):Prop:=
 ∃(n:Int) (a:Nat) (S':SnS),e= .returned (.tuple #[.int .i64 n,.int .i64 (a:Int)])/\(a≠0->n=0)/\SnGd (c+1) S'/\Chg (SM w B) w w'/\SnapsAt w' L L w'.heap.size sn S'
set_option maxHeartbeats 1000000 in
theorem b27{I w5 H w11:World}(a:List (Value×Nat))(r:Option Addr)(v:Nat)(aa j:Option Addr)(ac m:Nat)(a9:Option Addr)(l9 c9:Nat){n b N z:Nat}
  (HX:L<=B/\B<=w.heap.size/\B<=sn/\a.length=S.l.length/\w.ownsRow B a3d 3 (.slice r S.l.length v) S.l.length ((List.zipWith a0U S.l a).flatten)/\(∀i (h1:i<S.l.length) (h2:i<a.length),Own w L a[i].1 S.l[i].hash/\∃Z:World,Z.heap.size=C/\Below C Z w/\TreeAt Z L L a[i].2 S.l[i].T)/\SnapsAt w L L w.heap.size sn S)
  (a0:TGd c T/\SnGd c S/\n=S.l.length/\b=S.next/\Own w L (.slice aa N ac) S.last/\S.last.length=N) (hz:w.heap[sn]? =some (.cells #[.slice r n v,.int .i64 (b:Int),.slice aa N ac] a1A (0,0))) (ae:∀(k:Nat),(Value.slice r n v).ownBlock=some k->k≠sn)
  (hb1:Below w.heap.size w I) (a3:TreeAt I L w.heap.size z (a1C T)) (hb5:Below I.heap.size I w5) (Q:Own w5 L (.slice j 32 m) (sha [S.last,a0p (a1C T)].flatten))
  (a1:((w5.setCell ⟨sn,2,none⟩ (.slice j 32 m)).drew.alloc (.cells #[.int .i64 (b:Int),.slice j 32 m,.pointer (some ⟨z,0,none⟩)] a3d)).grownBy H (Value.slice r n v).ownBlock)
  (R:H.ownsRow L a3d 3 (.slice a9 l9 c9) (S.l ++[(⟨b,sha [S.last,a0p (a1C T)].flatten,a1C T⟩:Sn)]).length ((List.zipWith a0U (S.l ++[(⟨b,sha [S.last,a0p (a1C T)].flatten,a1C T⟩:Sn)]) (a ++[(.slice j 32 m,z)])).flatten))
  (a7:H.heap[sn]? =some (.cells #[.slice r n v,.int .i64 (b:Int),.slice j 32 m] a1A (0,0)))
  (V:w11.heap[sn]? =some (.cells #[.slice a9 l9 c9,.int .i64 ((b:Int)+1),.slice j 32 m] a1A (0,0))) (u:w11=(H.setCell ⟨sn,0,none⟩ (.slice a9 l9 c9)).setCell ⟨sn,1,none⟩ (.int .i64 ((b:Int)+1))) (d:¬8<=n):
  b1u w L B c sn (.returned (.tuple #[.int .i64 (b:Int),.int .i64 0])) w11:=by
 obtain⟨P,hB,J,h3,h4,h5,_⟩:=HX;obtain⟨gd,gs,hn,a4,h2,hN⟩:=a0;have y:Below w.heap.size w w5:=hb1.trans (hb5.mono hb1.size);obtain⟨x,X⟩:∃x:Sn,x=⟨b,sha [S.last,a0p (a1C T)].flatten,a1C T⟩:=⟨_,rfl⟩
 rw[<-X] at R;have t:∀k,(Value.slice r n v).ownBlock=some k->B<=k/\∃C E,w.heap[k]? =some (.cells C a3d E):=fun k e=>by
  rcases h4.2 with⟨A,_⟩ | ⟨g,cap,ad,A,q,M,_⟩
  ·injection A with A;rw[A] at e;simp[Value.ownBlock] at e
  ·injection A with A;rw[A] at e
   have:g=k:=by simpa[Value.ownBlock] using e
   rw[<-this];exact⟨q,_,_,M⟩
 have o:∀W,Below W.heap.size W w5->Chg (fun k=>k=sn∨(Value.slice r n v).ownBlock=some k) W w11:=fun W hb=>by
  rw[u];exact(((((((Chg.of_below hb _).setCell (p:=⟨sn,2,none⟩) (fun _=>.inl rfl) _).drew).alloc _).grown a1 (fun k _ e=>.inr e)).setCell (p:=⟨sn,0,none⟩) (fun _=>.inl rfl) _).setCell (p:=⟨sn,1,none⟩) (fun _=>.inl rfl) _)
 have f:∀W,Below w.heap.size w W->∀k,k<W.heap.size->(k=sn∨(Value.slice r n v).ownBlock=some k)->k<L∨a5o W k:=fun W hb k _ e=>by
  have hk:∃C Y E,w.heap[k]? =some (.cells C Y E)/\(Y=a1A∨Y=a3d):=by
   rcases e with rfl | e
   ·exact⟨_,_,_,hz,.inl rfl⟩
   ·obtain⟨_,C,E,h⟩:=t k e;exact⟨_,_,_,h,.inr rfl⟩
  obtain⟨C,Y,E,q,M⟩:=hk;have q:=(hb.block k (ltH q)).trans q;refine .inr ⟨fun C2 af ab d=>?_,fun es cl d=>by rw[q] at d;injection d with d;cases d⟩;rw[q] at d;injection d with d;injection d with _ d
  rw[<-d];rcases M with rfl | rfl <;>decide
 have D:=o w y;have a2:=gd.commit;have a8:x.hash.length=32:=by rw[X];exact a0v _
 refine⟨(b:Int),0,⟨S.l ++[x],b+1,sha [S.last,a0p (a1C T)].flatten⟩,rfl,fun e=>absurd rfl e,⟨?_,fun s a=>?_,?_,?_⟩,?_,?_⟩
 ·show(S.l ++[x]).length<=8;rw[Af,A9];omega
 ·rcases List.mem_append.1 a with a | a
  ·exact(gs.mono (As c)).one s a
  ·obtain rfl:=AQ.1 a;rw[X];exact⟨a2.mono (As c),a0v _,by show b<=c+1;rw[a4];exact gs.nx.2⟩
 ·exact⟨Nat.le_add_left _ _,by show b+1<=c+1+1;have:=gs.nx.2;omega⟩
 ·show(sha _).length<=32;rw[a0v];exact Aa _
 ·refine D.mono (fun k hk e=>?_);rcases e with rfl | e
  ·exact⟨J,_,_,_,hz,.inl rfl⟩
  ·obtain⟨q,C,E,M⟩:=t k e;exact⟨q,_,_,_,M,.inr rfl⟩
 ·have K:Chg (fun k=>k=sn) H w11:=by rw[u];exact(a0x H sn 0 _).two (a0x _ sn 1 _)
  refine⟨Ad P J,_,_,a ++[(.slice j 32 m,z)],by rw[V];rfl,Q.alien (o w5 (Ab _ _)) (f w5 y),by rw[Af,Af,h3];rfl,a4m R K (fun g C E h e=>by rw[e] at h;exact absurd (a5Q h a7) (by decide)),fun i i1 i2=>?_⟩;have ag:i<S.l.length+1:=by simpa using i1
  by_cases hi:i<S.l.length
  ·obtain⟨k1,Z,k2,k3,k4⟩:=h5 i hi (by omega);obtain⟨mb,F,G,hT⟩:=k4.below (w':=w) (by rw[k2];exact k3);have e1:(a ++[(Value.slice j 32 m,z)])[i]=a[i]'(by omega):=BI (by omega);have U:(S.l ++[x])[i]=S.l[i]:=BI hi;rw[e1];refine⟨?_,w11,rfl,Ab _ _,?_⟩
   ·show Own _ _ _ ((S.l ++[x])[i]).hash;rw[U];exact k1.alien D (f w (Ab _ _))
   ·show TreeAt _ _ _ _ ((S.l ++[x])[i]).T;rw[U];exact⟨mb,F,G,hT.alien (Aa _) D (f w (Ab _ _))⟩
  ·have a6:i=S.l.length:=by omega
   subst a6;have e1:(a ++[(Value.slice j 32 m,z)])[S.l.length]=(Value.slice j 32 m,z):=by rw[Cd (by omega)];simp[h3]
   have U:(S.l ++[x])[S.l.length]=x:=by simp
   rw[e1];obtain⟨mb,F,G,hT⟩:=a3;have O:L<=w.heap.size:=Ad P hB;refine⟨?_,w11,rfl,Ab _ _,?_⟩
   ·show Own _ _ _ ((S.l ++[x])[S.l.length]).hash;rw[U,X];exact Q.alien (o w5 (Ab _ _)) (f w5 y)
   ·show TreeAt _ _ _ _ ((S.l ++[x])[S.l.length]).T;rw[U,X];exact TreeAt.weaken ⟨mb,F,G,hT.alien O (o I hb5) (f I hb1)⟩ O
theorem b5o(h:SnapsAt w L B C sn S)(O:L<=B)(hB:B<=w.heap.size)(hT:TreeAt w L B t T)(gd:TGd c T)(gs:SnGd c S)(hc:c<=60000):
  Calls Tryz.prog 92 #[.pointer (some ⟨sn,0,none⟩),.pointer (some ⟨t,0,none⟩)] w fun e w'=>b1u w L B c sn e w':=by
 have a1:=h.frozen O;obtain⟨an,lv,av,hs,hz,h2,h3,h4,h5⟩:=h;obtain⟨x,lc,aT⟩:∃x lc,lv= .slice x S.l.length lc:=by
  rcases h4.2 with⟨e,e0⟩ | ⟨g,cap,_,e,_⟩
  ·exact⟨none,0,by rw[e,e0]⟩
  ·exact⟨_,cap,e⟩
 have am:∀(k:Nat),lv.ownBlock=some k->k≠sn:=fun k e e2=>by
  rcases h4.2 with⟨e3,_⟩ | ⟨g,cap,aK,e3,_,h7,_⟩
  ·rw[e3] at e;simp[Value.ownBlock] at e
  ·rw[e3] at e;have:g=k:=by simpa[Value.ownBlock] using e
   rw[this,e2] at h7;exact absurd (a5Q h7 hz) (by decide)
 subst aT;obtain⟨N,hN⟩:∃N,S.last.length=N:=⟨_,rfl⟩
 obtain⟨aa,ac,rfl,aJ⟩:=h2.bsn hN;obtain⟨n,hn⟩:=qnm S.l.length;obtain⟨o,a6⟩:=qnm S.next
 rw[<-hn,<-a6] at hz;rw[<-hn] at am;have c0:w.cell? ⟨sn,0,none⟩=some (.slice x n lc):=a0a hz 0;have b0:n<=8:=by rw[hn];exact gs.len
 obtain⟨mb,F,G,hT⟩:=hT;have aH:=qh (a6I hT gd hc (Ad O hB));have aq:=qh am;have H:=qh (aI O (aI hB (aI an (aI h3 (aI h4 (aI h5 a1))))));have d:=qh (aI gd (aI gs (aI hn (aI a6 (aI h2 hN)))));have HZ:=qh hz;have X:=qh aJ;clear a1 an hz h2 h3 h4 h5 hN hn a6 hT gd gs O hB aJ am;go_enter Tryz.func92,Tryz.ntmps92;by_cases h8:8<=n
 ·go_wp2_with fail;go_ret2;exact⟨0,4,S,rfl,fun _=>rfl,d.out.2.1.mono (As _),Chg.refl _ _,H.out.2.2.2.2.2.2⟩
 have al:=qh (aI h8 (show o<=60001 from by have h1:=d.out.2.1.nx.2;have h2:=d.out.2.2.2.1;omega));go_wp2_with fail;refine aH.out.mono ?_;rintro e w1 ⟨t',rfl,aB,hb1⟩;have ai:=(hb1.block sn (ltH HZ.out)).trans HZ.out;have c2:w1.cell? ⟨sn,2,none⟩=some (.slice aa N ac):=a0a ai 2;have a8:=qh ai;have R:=qh (fun W (hb:Below w1.heap.size w1 W)=>(hb.cell (p:=⟨sn,2,none⟩) (ltH a8.out)).trans c2);have P:=qh hb1;have au:=qh aB;have aW:=qh (X.out.below hb1);obtain⟨b1,F1,G1,aQ⟩:=aB;have aA:=qh (fun W (hb:Below w1.heap.size w1 W)=>a4x (aQ.below hb) d.out.1.commit.1 hc);obtain⟨bl,a7⟩:∃bl,(a0p (a1C T)).length=bl:=⟨_,rfl⟩
 have af:=qh (aI a7 (aI (show bl<=128000002 from by rw[<-a7];exact a3q au.out d.out.1.commit.1 hc) (show S.last.length<=32 from d.out.2.1.last)));clear ai hb1 aQ aH X a7 c0;go_upto_region 6 with fail
 refine a0h (fun i=>List.contains (List.range 10) i) (fun w'=>w'.cell? ⟨sn,2,none⟩=some (.slice aa N ac)) (by kernel_rfl) ?_ (fun hHeld=>?_)
 ·go_keep
 refine qtk 0 19 ?_;refine qtk 1 20 ?_;refine qtk 2 21 ?_;refine qtk 3 22 ?_;refine qtk 4 23 ?_;refine qtk 5 24 ?_;refine qone 6 fun K hK=>?_
 go_simp;refine(aA.out _ (Ab _ _).drew).mono ?_;rintro e w2 ⟨bv,rfl,az,hb2⟩;obtain⟨ab,cb,rfl,ar⟩:=az.bsn af.out.1;have aN:=qh ar;have ah:=qh ((Ab w1.heap.size w1).drew.trans hb2);have hHeld:=R.out _ ah.out;clear az ar hb2 aA;go_wp2_with fail;refine hK.out _ _ (fun _=>hHeld) ?_;clear hK K;refine qone 7 fun K hK=>?_
 go_simp;obtain⟨w3,I⟩:=qnm (w2.alloc (.cells #[.slice aa N ac,.slice ab bl cb] 30));obtain⟨Z,hZ⟩:=qnm w2.heap.size;have hb3:=qba I;have J:w3.heap[Z]? =some (.cells #[.slice aa N ac,.slice ab bl cb] 30 (0,0)):=by rw[I,hZ];exact Ae _ _
 have M:=qh (ah.out.trans (hb3.mono ah.out.size));have aO:=qh (a4e 2 2 (some ⟨Z,0,none⟩) [S.last,a0p (a1C T)] w3 ⟨rfl,Aa _,by unfold maxLen;decide,.inr ⟨Z,0,rfl,ltH J,fun i hi=>by
  match i,hi with
  | 0,_=>exact ⟨_,_,_,a0a J 0,aW.out.below M.out⟩
  | 1,_=>exact ⟨_,_,_,a0a J 1,aN.out.below hb3⟩⟩⟩ (by decide) (by simp only[Bg,List.flatten_nil,Af,Ay];have:=af.out;omega))
 have hHeld:=R.out _ M.out;rw[<-I,<-hZ];clear hb3 J I hZ aN;refine hK.out _ _ (fun _=>hHeld) ?_;clear hK K;refine qone 8 fun K hK=>?_
 go_simp;refine aO.out.mono ?_;rintro e w4 ⟨cv,rfl,aw,hb4⟩;obtain⟨cl,a2⟩:∃cl,([S.last,a0p (a1C T)].flatten).length=cl:=⟨_,rfl⟩
 obtain⟨a4,c4,rfl,aC⟩:=aw.bsn a2;have aG:=qh (a2I a4 cl c4 _ w4 aC (by rw[<-a2];simp only[Bg,List.flatten_nil,Af,Ay];have:=af.out;omega));have D:=qh (M.out.trans (hb4.mono M.out.size));have hHeld:=R.out _ D.out;clear aw aC hb4 a2 aO;go_wp2_with fail;refine hK.out _ _ (fun _=>hHeld) ?_;clear hK K;refine qone 9 fun K hK=>?_
 go_simp;refine aG.out.mono ?_;rintro e w5 ⟨hv,rfl,ad,hb5⟩;obtain⟨q,r,rfl,-⟩:=ad.bsn (n:=32) (a0v _);have u:=qh (D.out.trans (hb5.mono D.out.size));have aV:=qh (ad.base (B':=L) (by have:=D.out.size;have:=P.out.size;have:=H.out.1;have:=H.out.2.1;omega));have j:=(u.out.block sn (ltH a8.out)).trans a8.out;have aR:=qh j;have hHeld:=R.out _ u.out;clear j ad hb5 aG;go_wp2_with fail;refine hK.out _ _ (fun _=>hHeld) ?_;clear hK K;refine qfr 10 29 ?_;refine qfr 11 30 ?_;refine qone 12 fun K hK=>?_
 have j:=aR.out;have cv:w5.cell? ⟨sn,2,none⟩=some (.slice aa N ac):=a0a j 2;have fv:=a0e j 2;have Q:=ltH j;go_simp;have ak:(w5.setCell ⟨sn,2,none⟩ (.slice q 32 r)).heap[sn]? =some (.cells #[.slice x n lc,.int .i64 (o:Int),.slice q 32 r] a1A (0,0)):=a0f (k:=2) (y:=.slice q 32 r) j;obtain⟨w6,aj⟩:=qnm (w5.setCell ⟨sn,2,none⟩ (.slice q 32 r));rw[<-aj] at ak⊢;have aU:=qh ak;have ae:=qh aj;clear cv fv Q j ak aj;refine hK.out _ _ (fun h=>by simp at h) ?_;clear hK K;refine qdon ?_;clear hHeld;go_upto_region 7 with fail
 have E:=H.out.2.2.2.2.1;have aS:=qh (show w5.ownsRow L a3d 3 (.slice x n lc) S.l.length ((List.zipWith a0U S.l hs).flatten) from by
  rw[<-d.out.2.2.1] at E⊢;exact⟨E.1,(a1t (a1t E P.out) u.out).2.imp id (fun⟨g,cap,aK,h5,h6,h7⟩=>⟨g,cap,aK,h5,Ad H.out.1 h6,h7⟩)⟩)
 clear E;obtain⟨w7,A⟩:=qnm w6.drew;have s:w7.heap[sn]? =some (.cells #[.slice x n lc,.int .i64 (o:Int),.slice q 32 r] a1A (0,0)):=by rw[A];exact aU.out
 have ap:=qh s;have ag:=qh A;refine a0h (fun i=>List.contains (List.range 17) i) (fun w'=>w'.cell? ⟨sn,0,none⟩=some (.slice x n lc)/\w'.cell? ⟨sn,1,none⟩=some (.int .i64 (o:Int))/\w'.cell? ⟨sn,2,none⟩=some (.slice q 32 r)) (by kernel_rfl) ?_ (fun hHeld=>?_)
 ·rw[<-A];exact⟨a0a s 0,a0a s 1,a0a s 2⟩
 rw[<-A] at hHeld⊢;clear A s;refine qtk 0 31 ?_;refine qtk 1 32 ?_;refine qtk 2 33 ?_;refine qtk 3 34 ?_;refine qtk 4 35 ?_;refine qtk 5 36 ?_;refine qtk 6 37 ?_;refine qtk 7 38 ?_;refine qtk 8 39 ?_;refine qtk 9 40 ?_;refine qtk 10 41 ?_;refine qtk 11 42 ?_;refine qtk 12 43 ?_;refine qtk 13 44 ?_;refine qtk 14 45 ?_;refine qone 15 fun K hK=>?_
 go_simp;obtain⟨w8,m⟩:=qnm (w7.alloc (.cells #[.int .i64 (o:Int),.slice q 32 r,.pointer (some ⟨t',0,none⟩)] a3d));obtain⟨Y,hY⟩:=qnm w7.heap.size;have aE:=qba m;have aP:w8.heap[Y]? =some (.cells #[.int .i64 (o:Int),.slice q 32 r,.pointer (some ⟨t',0,none⟩)] a3d (0,0)):=by rw[m,hY];exact Ae _ _
 have z:=(aE.block sn (ltH ap.out)).trans ap.out;have aM:=a4m (aS.out) (show Chg (fun k=>k=sn) w5 w8 from by rw[m,ag.out,ae.out];exact((a0x w5 sn 2 _).drew).alloc _) (fun g C fr hg e=>by rw[e] at hg;exact absurd (a5Q hg aR.out) (by decide));have aY:w5.heap.size<=w8.heap.size:=by rw[m,ag.out,ae.out];simp
 have aF:L<=w8.heap.size:=by have:=u.out.size;have:=P.out.size;have:=H.out.1;have:=H.out.2.1;omega
 obtain⟨v9,w9,U,ax,ao⟩:=a6W L S.l hs H.out.2.2.2.1 aM ⟨o,sha [S.last,a0p (a1C T)].flatten,a1C T⟩ (.slice q 32 r,t') rfl Y aP 241 (by have:=al.out;have:=d.out.2.2.1;omega) aF;have f:=qh (aI m (aI z (aI ax (aI ao U))));have hHeld:w8.cell? ⟨sn,0,none⟩=some (.slice x n lc)/\w8.cell? ⟨sn,1,none⟩=some (.int .i64 (o:Int))/\w8.cell? ⟨sn,2,none⟩=some (.slice q 32 r):=⟨a0a z 0,a0a z 1,a0a z 2⟩
 rw[<-m,<-hY];clear aY aF aE aP m hY z aM ax ao U;refine hK.out _ _ (fun _=>hHeld) ?_;clear hK K;refine qone 16 fun K hK=>?_
 refine a0D (by rfl) _ _ 241 rfl _ _ _ (by rfl) (by rfl) f.out.2.2.2.2 ?_;obtain⟨a9,l9,c9,aX⟩:=a1s f.out.2.2.1;subst aX;have b:=(f.out.2.2.2.1.block sn (ltH f.out.2.1) (fun e=>aq.out _ e.symm rfl)).trans f.out.2.1;have aD:=qh b;have hHeld:w9.cell? ⟨sn,0,none⟩=some (.slice x n lc)/\w9.cell? ⟨sn,1,none⟩=some (.int .i64 (o:Int))/\w9.cell? ⟨sn,2,none⟩=some (.slice q 32 r):=⟨a0a b 0,a0a b 1,a0a b 2⟩
 clear b;refine hK.out _ _ (fun _=>hHeld) ?_;clear hK K;refine qfr 17 48 ?_;refine qfr 18 49 ?_;refine qone 19 fun K hK=>?_
 have b:=aD.out;have cv:w9.cell? ⟨sn,0,none⟩=some (.slice x n lc):=a0a b 0;have fv:=a0e b 0;have Q:=ltH b;go_simp;have a:(w9.setCell ⟨sn,0,none⟩ (.slice a9 l9 c9)).heap[sn]? =some (.cells #[.slice a9 l9 c9,.int .i64 (o:Int),.slice q 32 r] a1A (0,0)):=a0f (k:=0) (y:=.slice a9 l9 c9) b;obtain⟨a3,v⟩:=qnm (w9.setCell ⟨sn,0,none⟩ (.slice a9 l9 c9));rw[<-v] at a⊢;have ay:=qh a;have aL:=qh v;clear cv fv Q b a v;refine hK.out _ _ (fun h=>by simp at h) ?_;clear hK K;refine qdon ?_;clear hHeld;have a:=ay.out;have cv:a3.cell? ⟨sn,1,none⟩=some (.int .i64 (o:Int)):=a0a a 1;have fv:=a0e a 1;have Q:=ltH a;have aZ:=al.out.2;go_wp2_with fail;go_ret2;obtain⟨b2,V⟩:=qnm (a3.setCell ⟨sn,1,none⟩ (.int .i64 ((o:Int)+1)));have a0:(a3.setCell ⟨sn,1,none⟩ (.int .i64 ((o:Int)+1))).heap[sn]? =some (.cells #[.slice a9 l9 c9,.int .i64 ((o:Int)+1),.slice q 32 r] a1A (0,0)):=a0f (k:=1) (y:=.int .i64 ((o:Int)+1)) a;rw[<-V] at a0⊢;exact b27 hs x lc aa q ac r a9 l9 c9 H.out d.out HZ.out aq.out P.out au.out u.out aV.out (by rw[<-ae.out,<-ag.out,<-f.out.1];exact f.out.2.2.2.1) f.out.2.2.1 aD.out a0 (by rw[V,aL.out]) al.out.1
end
section
open Go.RowKit Go.ChangeMaps Go.MapKept
theorem b38(n:Nat)(w:World)(u:n<=1000):
  Calls Tryz.prog 243 #[.slice none 0 0,.int .i64 (n:Int)] w fun e w'=>∃v,e= .returned v/\w'.ownsRow w.heap.size a3d 3 v 0 []/\Below w.heap.size w w':=by
 rcases BS n with rfl | r
 ·go_enter Tryz.func243,Tryz.ntmps243;go_wp2_with fail;go_ret;exact⟨_,rfl,A6 _ _ _ _,Ab _ _⟩
 ·have t:¬(n:Int)<0:=by omega
  have x:(0:Int)<(n:Int):=by omega
  have y:IntKind.i64.wrap (n:Int)=(n:Int):=by rw[Ak _ (by omega)]
  obtain⟨i,o,g,l,j⟩:=a1U a8f;have k:=Lib.run_append_nil_zeros (P:=Tryz.prog) w 241 3 241 a3d i _ .i64 .i64 Tryz.underlying241 Tryz.underlying3 o g n r (by omega) (by omega) (by rw[j];omega);obtain⟨cap,d⟩:=qnm (grownCap w n 0 a3d);have s:=grownCap_ge w n 0 a3d;have h3:=grownCap_le_maxLen w n 0 a3d (by unfold maxLen;omega);rw[<-d] at k s h3;obtain⟨a,b⟩:=qnm ((Builtin.zeroCells (Value.agg #[.int .i64 0,.slice none 0 0,.pointer none]).cells n ++Builtin.zeroCells (Value.agg #[.int .i64 0,.slice none 0 0,.pointer none]).cells (cap - n)));rw[<-b] at k;obtain⟨w1,c⟩:=qnm (w.drew.alloc (.cells a a3d));rw[<-c] at k;have p:Below w.heap.size w w1:=by rw[c];exact((Ab _ w).drew).alloc (by simp) _
  have h:w1.heap[w.heap.size]? =some (.cells a a3d (0,0)):=by rw[c];have:=World.alloc_heap_new w.drew (.cells a a3d);simpa using this
  have f:a.size=cap * 3:=by
   rw[b,Array.size_append,size_zeroCells,size_zeroCells];show n * 3+(cap - n) * 3=cap * 3;omega
  have q:w1.ownsRow w.heap.size a3d 3 (.slice (some ⟨w.heap.size,0,none⟩) 0 cap) 0 []:=⟨rfl,.inr ⟨w.heap.size,cap,a,rfl,Aa _,h,AH _,h3,f,by simp⟩⟩
  have m:=qh (aI q p);clear q p c d h3 g l j o h f b;go_enter Tryz.func243,Tryz.ntmps243;go_wp2_with (at_builtin;refine Lib.wpList_append_run _ rfl _ _ _ _ rfl _ _ rfl rfl _ _ k ?_);go_ret;exact⟨_,rfl,m.out.1,m.out.2⟩
abbrev Rw:Type:=Addr×Nat×Nat×List Value
def rwN:List Rw->Nat
 | []=>0
 | d :: ds=>d.2.1+rwN ds
def rwC:List Rw->List Value
 | []=>[]
 | d :: ds=>d.2.2.2 ++rwC ds
theorem a6a:∀(a b:List Rw),rwN (a ++b)=rwN a+rwN b
 | [],b=>by simp[rwN]
 | d :: a,b=>by rw[Be];simp only[rwN];rw[a6a a b];omega
theorem b3k:∀(a b:List Rw),rwC (a ++b)=rwC a ++rwC b
 | [],b=>by simp[rwC]
 | d :: a,b=>by rw[Be];simp only[rwC];rw[b3k a b,List.append_assoc]
theorem b0V(ds:List Rw)(k:Nat):rwN (ds.take k)<=rwN ds:=by
 conv=>rhs;rw[<-List.take_append_drop k ds]
 rw[a6a];omega
structure RwAt (w:World) (d:Rw):Prop where
 len:d.2.2.2.length=d.2.1 * 3
 lt:d.1.block<w.heap.size
 at_:∀j u,d.2.2.2[j]? =some u->w.cell? (d.1.add j)=some u
 one:∀u∈d.2.2.2,u.oneCell'=true
theorem RwAt.below{w w':World}{d:Rw}(h:RwAt w d)(a:Below w.heap.size w w'):RwAt w' d:=
 ⟨h.len,Ai h.lt a.size,fun j u b=>(a.cell (by unfold Addr.add;split <;>exact h.lt)).trans (h.at_ j u b),h.one⟩
def L3(w:World)(b:Nat)(a:List Rw):Prop:=b<w.heap.size/\∀i (h:i<a.length),w.cell? ⟨b,i,none⟩=some (.slice (some a[i].1) a[i].2.1 a[i].2.2.1)/\RwAt w a[i]
theorem a74{W:World}(B:Nat)(v:Value)(n:Nat)(xs:List Value)(h:W.ownsRow B a3d 3 v n xs)(d:Rw)(f:RwAt W d)(j:TypeId)(k:n+d.2.1<=1000000)(a:B<=W.heap.size):
  ∃b w',(Builtin.append_ #[241,241] j #[v,.slice (some d.1) d.2.1 d.2.2.1]).run Tryz.prog W= .ok b w'/\w'.ownsRow B a3d 3 b (n+d.2.1) (xs ++d.2.2.2)/\W.grownBy w' v.ownBlock:=by
 obtain⟨i,p,c,e,g⟩:=a1U a8f;obtain⟨b,w',l,m,o,_,q⟩:=run_append_own_at (P:=Tryz.prog) W B 241 j a3d i (.agg #[.int .i64 0,.slice none 0 0,.pointer none]) 3 40 Tryz.underlying241 p c e g rfl (by decide) v n xs
  h d.1 d.2.1 d.2.2.1 d.2.2.2 f.len f.at_ f.one (by unfold maxLen;omega) (by omega) a
 exact⟨b,w',l,m,o⟩
theorem b0E(w:World)(b n cap:Nat)(ds:List Rw)(Q:ds.length=n)(U:L3 w b ds)(O:rwN ds<=1000)(a0:n<=1000):
  Calls Tryz.prog 173 #[.slice (some ⟨b,0,none⟩) n cap] w fun e w'=>∃v,e= .returned v/\w'.ownsRow w.heap.size a3d 3 v (rwN ds) (rwC ds)/\Below w.heap.size w w':=by
 have J:=Ext.refl w;obtain⟨H,I⟩:=qnm w.heap.size;rw[<-I] at J⊢;have N:=qh I;have C:=qh U;have E:=qh Q;have G:=qh O;clear I U O Q;go_enter Tryz.func173,Tryz.ntmps173;go_upto_block 0 with fail
 go_cut [3] (fun s wr=>s= .int .i64 (rwN ds:Int)/\wr=w);case first=>
  go_wp2_with fail;go_loopw [3,11] (fun s i wr=>∃k S:Nat,k<=n/\i= .int .i64 k/\s= .int .i64 (S:Int)/\S=rwN (ds.take k)/\wr=w) (fun _ i _=>n - (intOf i).toNat);case atStart=>exact ⟨0,0,by omega,rfl,rfl,rfl,rfl⟩
  case round=>
   obtain⟨k,S,hk,rfl,rfl,V,rfl⟩:=hrel;have R:=qh V;clear V;by_cases u:k<n
   ·have l:k<ds.length:=by rw[E.out];exact u
    obtain⟨a,x⟩:=C.out.2 k l;have f:=Ar l;have t:=C.out.1;generalize ds[k]=d at a x f;obtain⟨P,m,c,xs⟩:=d;dsimp only at a;have g:S+m<=1000/\S+m=rwN (ds.take (k+1)):=by
     have D:=b0V ds (k+1);rw[f,a6a] at D⊢;simp only[rwN] at D⊢;have:=G.out;have:=R.out;omega
    obtain⟨Z,B⟩:=g;have L:=qh B;clear x B f;have X:(0:Int)<=(k:Int):=by omega
    have e2:(k:Int)<(n:Int):=by omega
    have e3:¬((S:Int)+(m:Int))<0:=by omega
    go_wp2_with fail;go_roundw;case rel=>exact ⟨k+1,S+m,by omega,by go_num,by go_num,L.out,trivial⟩
    case measure=>simp [intOf];omega
   ·obtain rfl:k=n:=by omega
    have f:ds.take k=ds:=Am (by rw[E.out];omega);go_wp2_with fail;go_meet;exact⟨by rw[R.out,f],rfl⟩
 case rest=>
  obtain⟨rfl,rfl⟩:=hcut;have M:=qh (b38 (rwN ds) wc G.out);obtain⟨F,hF⟩:=qnm (rwN ds);rw[<-hF] at M⊢;have W:=qh hF;clear hF;go_wp2_with fail;refine M.out.mono ?_;rintro e w1 ⟨v0,rfl,K,T⟩;rw[<-N.out] at K;have y:=J.step T;clear T M J;go_wp2_with fail;go_loopw [6,27] (fun s i wx=>∃k:Nat,k<=n/\i= .int .i64 k/\wx.ownsRow H a3d 3 s (rwN (ds.take k)) (rwC (ds.take k))/\Ext H wc wx) (fun _ i _=>n - (intOf i).toNat);case atStart=>exact ⟨0,by omega,rfl,K,y⟩
  case round=>
   obtain⟨k,hk,rfl,o,h⟩:=hrel;clear K y;by_cases u:k<n
   ·have l:k<ds.length:=by rw[E.out];exact u
    obtain⟨a,x⟩:=C.out.2 k l;have f:=Ar l;have t:=C.out.1;have a1:=Ai t h.1.size;have j:=(h.1.cell (p:=⟨b,k,none⟩) (by rw[N.out];exact t)).trans a;have r:=x.below (by rw[<-N.out];exact h.1);have g:=b0V ds (k+1);generalize ds[k]=d at a j x r f;obtain⟨P,m,c,xs⟩:=d;dsimp only at j;rw[f,a6a] at g;simp only[rwN] at g;obtain⟨v9,w9,q,A,z⟩:=a74 H _ _ _ o (P,m,c,xs) r 241 (by have:=G.out;show _+m<=_;omega) h.2;dsimp only at q;have HX:=qh (aI A (aI z (aI h (aI f (A8 o)))));clear a x r o h A z f g;have X:(0:Int)<=(k:Int):=by omega
    have e2:(k:Int)<(n:Int):=by omega
    go_wp2_with (at_builtin;refine Lib.wpList_append_run _ rfl _ _ _ _ rfl _ _ rfl rfl _ _ q ?_);go_roundw;case rel=>
     obtain⟨Y,D,h3,h4,h5⟩:=HX.out;refine⟨k+1,by omega,by go_num,?_,h3.grown D (fun k hk=>(h5 k hk).1)⟩;rw[h4,a6a,b3k];simpa[rwN,rwC] using Y
    case measure=>simp [intOf];omega
   ·obtain rfl:k=n:=by omega
    have f:ds.take k=ds:=Am (by rw[E.out];omega);rw[f] at o;go_wp2_with fail;go_ret;exact⟨_,rfl,o,h.1⟩
end
end Go.Proofs.YtbemfdcjieakdaaGreatDoor
