/- StNo; StCreate; StClose; Turns; StOpen. -/
import Derived.Test.YtbemfdcjieakdaaGreatDoorK26
set_option maxRecDepth 100000
set_option maxHeartbeats 8000000
namespace Go.Proofs.YtbemfdcjieakdaaGreatDoor
section
open Go.RowKit Go.ChangeMaps Go.MapKept
abbrev TReply:TypeId:=41
def rpC(e n:Int)(d l:Value)(nd:Nd):Array Value:=#[.int .i64 e,.int .i64 n,d,l,.int .i64 nd.id,.int .i64 nd.kind,.int .i64 nd.links,.int .i64 nd.size,.int .u64 (nd.til:Int),.bool nd.closed]
def rpZ:Array Value:=#[.int .i64 0,.int .i64 0,.slice none 0 0,.slice none 0 0,.int .i64 0,.int .i64 0,.int .i64 0,.int .i64 0,.int .u64 0,.bool false]
def noC(e n:Int):Array Value:=#[.int .i64 e,.int .i64 n,.slice none 0 0,.slice none 0 0,.int .i64 0,.int .i64 0,.int .i64 0,.int .i64 0,.int .u64 0,.bool false]
theorem a0u{w:World}{g B:Nat}{a:World}{C:Array Value}(h:Below B a w)(b:B<=g):Below B a (w.setRow g C):=
 h.trans ⟨rfl,rfl,rfl,by simp[World.setRow],fun k hk=>BY w g k C (by omega)⟩
theorem a1G(a:Nat)(w:World):
  Calls Tryz.prog 79 #[.int .i64 (a:Int)] w fun e w'=>e= .returned (.agg (noC a 0))/\Below w.heap.size w w':=by
 have c:=qh (Ae w (.cells (noC a 0) TReply));have b:=qh ((Ab w.heap.size w).alloc (Aa _) (.cells (noC a 0) TReply));go_enter Tryz.func79,Tryz.ntmps79;go_wp2_with fail;refine Aj (v:=.agg (noC a 0)) ?_ rfl ⟨rfl,b.out⟩;exact Ap rfl _ _ w.heap.size TReply _ (0,0) _ rfl c.out Tryz.underlying41 rfl (by kernel_rfl)
variable {w w' : World} {L B C s t sn c : Nat} {fp : Nat → Option Nat} {σ : StM}
theorem StIn.setTree(h:StIn w L B C s t sn fp σ)(n:C<=B)(u:B<=w.heap.size)(f:TChg B w w'){x:Tr}(N:TreeAt w' L B t x):StIn w' L B C s t sn fp ⟨x,σ.S,σ.now,σ.fds⟩:=by
 have c:∀k C p y,w.heap[k]? =some (.cells C p y)->p≠a17->¬TM w B k:=fun k C p y hk q ⟨_,a⟩=>by
  rcases a with⟨C',F,a⟩ | ⟨X,W,a⟩
  ·rw[hk] at a;injection a with a;injection a with _ a;exact q a
  ·rw[hk] at a;injection a with a;cases a
 have b:∀ {v:Value} {xs:List UInt8},Own w L v xs->Own w' L v xs:=fun {v xs} m=>Chg.own f m (fun k hk=>by
  rcases m.parts with⟨rfl,rfl⟩ | ⟨g,cap,rfl,u,V⟩
  ·simp[Value.ownBlock] at hk
  ·have:g=k:=by simpa[Value.ownBlock] using hk
   subst this;obtain⟨j,d,_⟩:=V;exact c g _ _ _ d (by decide))
 have l:Below B w w':=f.below u;refine⟨h.sge,(f.block s h.lt (c _ _ _ _ h.cel (by decide))).trans h.cel,N,?_,h.no,fun i o E m=>?_⟩
 ·obtain⟨H,D,K,O,d,a,h3,e,R⟩:=h.snaps;refine⟨H,D,K,O,(f.block sn (Array.getElem?_eq_some_iff.1 d).1 (c _ _ _ _ d (by decide))).trans d,b a,h3,?_,fun i U A=>?_⟩
  ·refine⟨e.1,?_⟩;rcases e.2 with e | ⟨g,cap,j,J,M,r,Q⟩
   ·exact .inl e
   ·exact .inr ⟨g,cap,j,J,M,(f.block g (Array.getElem?_eq_some_iff.1 r).1 (c _ _ _ _ r (by decide))).trans r,Q⟩
  ·obtain⟨z,P,I,T,G⟩:=R i U A;exact⟨b z,P,I,T.trans (l.mono n),G⟩
 ·obtain⟨g,d,a,v,h3,e⟩:=h.fd i o E m;exact⟨g,d,a,v,(f.block g (Array.getElem?_eq_some_iff.1 h3).1 (c _ _ _ _ h3 (by decide))).trans h3,b e⟩
def a7Q{α:Type}(f:Nat->α)(i:Nat)(x:α)(j:Nat):α:=if j=i then x else f j
theorem StIn.setFd(h:StIn w L B C s t sn fp σ)(H:L<=B)(R:C<=B)(i:Nat)(hi:i<8)(g:Option Nat)(o:Option Opn)(M:match o with | none=>g=none | some o=>∃b,g=some b/\L<=b/\OpnAt w L b o):
  StIn (w.setCell ⟨s,3+i,none⟩ (.pointer (g.map fun b=>⟨b,0,none⟩))) L B C s t sn (a7Q fp i g) ⟨σ.T,σ.S,σ.now,a7Q σ.fds i o⟩:=by
 have n:Chg (fun k=>k=s) w (w.setCell ⟨s,3+i,none⟩ (.pointer (g.map fun b=>⟨b,0,none⟩))):=a0x w s (3+i) _;have d:∀k C z J,w.heap[k]? =some (.cells C z J)->z≠TState->k≠s:=fun k C z J hk I e=>by
  rw[e,h.cel] at hk;injection hk with hk;injection hk with _ hk;exact I hk.symm
 have c:∀ {v:Value} {xs:List UInt8},Own w L v xs->Own (w.setCell ⟨s,3+i,none⟩ (.pointer (g.map fun b=>⟨b,0,none⟩))) L v xs:=fun {v xs} x=>n.own x (fun k hk=>by
  rcases x.parts with⟨rfl,rfl⟩ | ⟨r,cap,rfl,hB,hr⟩
  ·simp[Value.ownBlock] at hk
  ·have:r=k:=by simpa[Value.ownBlock] using hk
   subst this;obtain⟨q,a,_⟩:=hr;exact d r _ _ _ a (by decide))
 have A:∀k,k<w.heap.size->k=s->k<L∨a5o w k:=fun k _ e=>.inr ⟨fun C z J m=>(by rw[e,h.cel] at m;injection m with m;injection m with _ m;rw[<-m];decide),fun es cl y=>by rw[e,h.cel] at y;injection y with y;cases y⟩
 have p:(w.setCell ⟨s,3+i,none⟩ (.pointer (g.map fun b=>⟨b,0,none⟩))).heap[s]? =some (.cells (stC t sn σ.now (a7Q fp i g)) TState (0,0)):=by
  rw[a0Q h.cel];have E:i=0∨i=1∨i=2∨i=3∨i=4∨i=5∨i=6∨i=7:=by omega
  rcases E with rfl | rfl | rfl | rfl | rfl | rfl | rfl | rfl <;>rfl
 refine⟨h.sge,p,?_,?_,fun j D l=>?_,fun j o' D x=>?_⟩
 ·obtain⟨mb,F,G,Y⟩:=h.tree;exact⟨mb,F,G,Y.alien H n A⟩
 ·obtain⟨l,P,W,Z,a,u,h3,f,h5⟩:=h.snaps;refine⟨l,P,W,Z,(n.block sn (Array.getElem?_eq_some_iff.1 a).1 (d _ _ _ _ a (by decide))).trans a,c u,h3,?_,fun i i1 O=>?_⟩
  ·refine⟨f.1,?_⟩;rcases f.2 with f | ⟨r,cap,q,V,X,K,k8⟩
   ·exact .inl f
   ·exact .inr ⟨r,cap,q,V,X,(n.block r (Array.getElem?_eq_some_iff.1 K).1 (d _ _ _ _ K (by decide))).trans K,k8⟩
  ·obtain⟨N,w0,U,k3,Q⟩:=h5 i i1 O;exact⟨c N,w0,U,k3.setCell (by have:=h.sge;show C<=s;omega) _,Q⟩
 ·by_cases e:j=i
  ·subst e;have a:o=none:=(Ah rfl).symm.trans l;subst a;exact(Ah rfl).trans M
  ·have a:σ.fds j=none:=(Ag e).symm.trans l;exact(Ag e).trans (h.no j D a)
 ·by_cases e:j=i
  ·subst e;have a:o=some o':=(Ah rfl).symm.trans x;subst a;obtain⟨b,a,u,v,h3,f⟩:=M;exact⟨b,(Ah rfl).trans a,u,v,(n.block b (Array.getElem?_eq_some_iff.1 h3).1 (d _ _ _ _ h3 (by decide))).trans h3,c f⟩
  ·have l:σ.fds j=some o':=(Ag e).symm.trans x;obtain⟨b,a,u,v,h3,f⟩:=h.fd j o' D l;exact⟨b,(Ag e).trans a,u,v,(n.block b (Array.getElem?_eq_some_iff.1 h3).1 (d _ _ _ _ h3 (by decide))).trans h3,c f⟩
def Fr(B:Nat)(w w':World):Prop:=Below B w w'/\∀(k:Nat) (C:Array Value) (a:Nat×Nat),w.heap[k]? =some (.cells C TReply a)->w'.heap[k]? =some (.cells C TReply a)
theorem Fr.size{B:Nat}{w w':World}(h:Fr B w w'):w.heap.size<=w'.heap.size:=h.1.size
theorem Fr.of{B:Nat}{w w':World}(h:Below w.heap.size w w')(a:B<=w.heap.size):Fr B w w':=⟨h.mono a,fun k _ _ hk=>(h.block k (Array.getElem?_eq_some_iff.1 hk).1).trans hk⟩
theorem Fr.trans{B:Nat}{a b c:World}(h:Fr B a b)(k:Fr B b c):Fr B a c:=⟨h.1.trans k.1,fun i C d e=>k.2 i C d (h.2 i C d e)⟩
theorem Fr.tchg{B:Nat}{w w':World}(h:TChg B w w')(c:B<=w.heap.size):Fr B w w':=⟨h.below c,fun k C f hk=>(h.block k (Array.getElem?_eq_some_iff.1 hk).1 (fun⟨_,a⟩=>by
 rcases a with⟨C',b,a⟩ | ⟨d,e,a⟩
 ·rw[hk] at a;injection a with a;injection a with _ a;exact absurd a (by decide)
 ·rw[hk] at a;injection a with a;cases a)).trans hk⟩
theorem Fr.setCell{B s i:Nat}{w w':World}(h:Fr B w w')(d:B<=s){C:Array Value}{c:Nat×Nat}(f:w'.heap[s]? =some (.cells C TState c))(v:Value):Fr B w (w'.setCell ⟨s,i,none⟩ v):=
 ⟨h.1.setCell (p:=⟨s,i,none⟩) d v,fun k b a hk=>(A5 _ _ _ _ (fun e=>by
  have:=h.2 k b a hk;rw[e] at this;rw[show(⟨s,i,none⟩:Addr).block=s from rfl,f] at this;injection this with this;injection this with _ this;exact absurd this (by decide))).trans (h.2 k b a hk)⟩
theorem Fr.setRow{B N:Nat}{w w':World}(h:Fr B w w')(b:B<=N)(c:w.heap.size<=N)(C':Array Value):Fr B w (w'.setRow N C'):=
 ⟨a0u h.1 b,fun k C a hk=>(BY w' N k C' (by have:=(Array.getElem?_eq_some_iff.1 hk).1;omega)).trans (h.2 k C a hk)⟩
end
section
open Go.RowKit Go.ChangeMaps Go.MapKept
variable {w w' : World} {L B C s t sn c : Nat} {fp : Nat → Option Nat} {σ : StM}
theorem b55(c:Nat)(T:Tr)(p:List (List UInt8))(a:Nat)(h:(a3D c T p a).2.1≠0):(a3D c T p a).2.2=T:=by
 unfold a3D at h⊢;by_cases d:fineP p≠0
 ·rw[Ah d]
 rw[Ag d] at h⊢;by_cases e:(a02 T p).2≠0
 ·rw[Ah e]
 rw[Ag e] at h⊢;cases f:getK (a02 T p).1 T with
 | none=>rfl
 | some x=>
  simp only[f] at h⊢;by_cases h3:(getK (p.getLast?.getD []) x.names).isSome
  ·rw[Ah h3]
  rw[Ag h3] at h⊢;by_cases b:64<=T.length
  ·rw[Ah b]
  rw[Ag b] at h⊢;exact absurd rfl h
theorem StIn.setReply(h:StIn w L B C s t sn fp σ)(q:L<=B)(M:C<=B){N:Nat}{X C':Array Value}(hN:B<=N)(r:w.heap[N]? =some (.cells X TReply (0,0))):StIn (w.setRow N C') L B C s t sn fp σ:=by
 have c:Chg (fun k=>k=N) w (w.setRow N C'):=⟨rfl,rfl,rfl,by simp[World.setRow],fun k _ hk=>BY w N k C' hk⟩
 have n:∀k,k<w.heap.size->k=N->k<L∨AlienS w k:=fun k _ e=>.inr ⟨fun C m y f=>(by rw[e,r] at f;injection f with f;injection f with _ f;rw[<-f];decide),fun es cl l=>by rw[e,r] at l;injection l with l;cases l⟩
 have a:∀k,k<w.heap.size->k=N->k<L∨a5o w k:=fun k hk e=>(n k hk e).imp id AlienS.alien
 have b:∀k C m y,w.heap[k]? =some (.cells C m y)->m≠TReply->k≠N:=fun k C m y hk x e=>by
  rw[e,r] at hk;injection hk with hk;injection hk with _ hk;exact x hk.symm
 refine⟨h.sge,(c.block s h.lt (b _ _ _ _ h.cel (by decide))).trans h.cel,?_,?_,h.no,fun i o I ho=>?_⟩
 ·obtain⟨mb,F,G,S⟩:=h.tree;exact⟨mb,F,G,S.alien q c a⟩
 ·obtain⟨K,H,Q,T,j,u,h3,d,W⟩:=h.snaps;refine⟨K,H,Q,T,(c.block sn (Array.getElem?_eq_some_iff.1 j).1 (b _ _ _ _ j (by decide))).trans j,u.alien c a,h3,?_,fun i Z E=>?_⟩
  ·refine⟨d.1,?_⟩;rcases d.2 with d | ⟨A,cap,p,P,R,z,V⟩
   ·exact .inl d
   ·exact .inr ⟨A,cap,p,P,R,(c.block A (Array.getElem?_eq_some_iff.1 z).1 (b _ _ _ _ z (by decide))).trans z,V⟩
  ·obtain⟨D,U,O,Y,J⟩:=W i Z E;exact⟨D.alien c a,U,O,Y.trans ⟨rfl,rfl,rfl,by simp[World.setRow],fun k hk=>BY w N k C' (by omega)⟩,J⟩
 ·obtain⟨g,j,u,v,h3,d⟩:=h.fd i o I ho;exact⟨g,j,u,v,(c.block g (Array.getElem?_eq_some_iff.1 h3).1 (b _ _ _ _ h3 (by decide))).trans h3,d.alien c a⟩
def a1n(c:Nat)(σ:StM)(p:List (List UInt8)):StM×Nat×Int:=
 if a60 σ<0 then(σ,25,0)
 else if(a3D c σ.T p 1).2.1≠0 then(σ,(a3D c σ.T p 1).2.1,0)
 else(⟨(a3D c σ.T p 1).2.2,σ.S,σ.now,a7Q σ.fds (a60 σ).toNat (some ⟨true,(a3D c σ.T p 1).1,[]⟩)⟩,0,a60 σ)
theorem a7F(h:StIn w L B C s t sn fp σ)(ok:TrOk c σ.T)(hc:c<=60000)(D:L<=B)(k:C<=B)(hB:B<=w.heap.size)(a:Option Addr)(n cap:Nat)(p:List (List UInt8))(hS:Ss w a n cap p)(hm:∀s∈p,s.length<=1000000)(hn:n<=100000):
  Calls Tryz.prog 80 #[.pointer (some ⟨s,0,none⟩),.slice a n cap] w fun e w'=>e= .returned (.agg (noC (a1n c σ p).2.1 (a1n c σ p).2.2))/\(∃ac,StIn w' L B C s t sn ac (a1n c σ p).1)/\Fr B w w':=by
 obtain⟨w0,y⟩:=qnm (w.alloc (.cells rpZ TReply));have hb0:=qba y;have a3:w0.heap[w.heap.size]? =some (.cells rpZ TReply (0,0)):=by rw[y];exact Ae w _
 have I:w.heap.size<w0.heap.size:=by rw[y];simp
 have h0:=h.below (Ad k hB) hb0;have a7:=hS.below hb0;have a4:=qh (b1h h0);have U:B<=w0.heap.size:=Ad hB hb0.size;have a5:=a8h σ.fds 8 0;obtain⟨q,hq⟩:=qnm (a60 σ);rw[<-hq] at a4;have Y:q= -1∨∃j:Nat,q=(j:Int)/\j<8:=by
  rw[hq];rcases a5 with h | ⟨j,h1,_,h2,_⟩
  ·exact .inl h
  ·exact .inr ⟨j,h1,by omega⟩
 obtain⟨r,hr⟩:=qnm (a3D c σ.T p 1);have R:a1n c σ p=if q<0 then(σ,25,0) else if r.2.1≠0 then(σ,r.2.1,0) else(⟨r.2.2,σ.S,σ.now,a7Q σ.fds q.toNat (some ⟨true,r.1,[]⟩)⟩,0,q):=by rw[hq,hr];rfl
 have O:=b55 c σ.T p 1;rw[<-hr] at O;have HM:=qh (show ∀W mb F G,TreeIn W L B t mb F G σ.T->Below w0.heap.size w0 W->_ from fun W mb F G hT hb=>b08 (w:=W) hT ok hc a n cap p (a7.below hb) hm hn 1 (.inl rfl));rw[<-hr] at HM;have A:=qh R;have X:=qh O;have H0:=qh h0;have Z:=qh y;have b:=qh (aI hb0 (aI U hB));have x:=qh a3;have c0:w0.cell? ⟨s,0,none⟩=some (.pointer (some ⟨t,0,none⟩)):=a0a h0.cel 0;have f:=qh I;clear h hS h0 a7 ok hm hb0 U a5 hq hr R O y a3 I;go_enter Tryz.func80,Tryz.ntmps80;go_upto_region 1 with fail
 have M:=qh Z.out;unfold rpZ at M;rw[<-M.out];obtain⟨N,hN⟩:=qnm w.heap.size;rw[<-hN] at x f⊢;have Q:=qh hN;clear hN M Z;go_wp2_with fail;refine a4.out.mono ?_;rintro e w1 ⟨rfl,rfl⟩;rcases Y with rfl | ⟨j,rfl,hj⟩
 ·have P:=qh (a1G 25 w0);have V:=qh (show a1n c σ p=(σ,25,0) by rw[A.out,Ah (by decide)]);go_wp2_with fail;refine P.out.mono ?_;rintro e w2 ⟨rfl,hb2⟩;have m:=(hb2.block N f.out).trans x.out;have E:=qh (aI (H0.out.below (Ad k b.out.2.1) hb2) (aI m (aI hb2 f.out)));unfold noC;clear hb2;go_wp2_with (refine Ao rfl TReply (.tmp 4) (.tmp 12) rfl N (noC 25 0) rfl rfl TReply rpZ m (by kernel_rfl) (by kernel_rfl) (by kernel_rfl) ?_);refine Aj (v:=.agg (noC 25 0)) (Ap rfl _ _ N TReply _ (0,0) _ rfl (AF _ _ _ _ TReply (0,0) m) Tryz.underlying41 rfl (by kernel_rfl)) rfl ?_;rw[V.out];have g:B<=N:=by rw[Q.out];exact b.out.2.2
  have ab:Fr B w w2:=(Fr.of b.out.1 b.out.2.2).trans (Fr.of E.out.2.2.1 b.out.2.1);exact⟨rfl,⟨fp,E.out.1.setReply D k g m⟩,ab.setRow g (by rw[Q.out];exact Aa _) _⟩
 ·have ad:¬(j:Int)<0:=by omega
  obtain⟨mb,F,G,hT⟩:=H0.out.tree;have a9:=qh (HM.out w0 mb F G hT (Ab _ _));clear hT;go_wp2_with fail;refine a9.out.mono ?_;rintro e w2 ⟨rfl,⟨F2,G2,a6⟩,u⟩;have m:w2.heap[N]? =some (.cells rpZ TReply (0,0)):=(u.block N f.out (fun⟨_,h⟩=>by
   rcases h with⟨C',ae,h⟩ | ⟨es,cl,h⟩
   ·rw[x.out] at h;injection h with h;injection h with _ h;exact absurd h (by decide)
   ·rw[x.out] at h;injection h with h;cases h)).trans x.out
  have a2:StIn w2 L B C s t sn fp ⟨r.2.2,σ.S,σ.now,σ.fds⟩:=H0.out.setTree k b.out.2.1 u ⟨_,_,_,a6⟩;have H:Fr B w w2:=(Fr.of b.out.1 b.out.2.2).trans (Fr.tchg u b.out.2.1);have J:=u.size;have d:=qh (aI a2 (aI H (Ai f.out J)));have aa:=qh m;clear a6 u a2 H J m a9 HM c0;obtain⟨id,o,T2⟩:=r;simp only at d A X;unfold b8R;simp only;by_cases hw:o=0
  ·subst hw;have V:=qh (show a1n c σ p=(⟨T2,σ.S,σ.now,a7Q σ.fds j (some ⟨true,id,[]⟩)⟩,0,(j:Int)) by rw[A.out,Ag (by omega),Ag (by simp)];rfl);have z:=(Ab w2.heap.size w2).alloc (Aa _) (.cells #[.bool true,.int .i64 (id:Int),.slice none 0 0] a8A);have i:=d.out.1.below (by have:=d.out.2.1.size;omega) z;have a0:OpnAt (w2.alloc (.cells #[.bool true,.int .i64 (id:Int),.slice none 0 0] a8A)) L w2.heap.size ⟨true,id,[]⟩:=⟨_,Ae w2 _,Own.nil _ _⟩
   have a1:=i.setFd D k j hj (some w2.heap.size) (some ⟨true,id,[]⟩) ⟨_,rfl,by have:=d.out.2.1.size;omega,a0⟩;have c3:=i.fdcell j hj;have f3:=a0e i.cel (3+j);have l:=(z.block N d.out.2.2).trans aa.out;have a8:N≠s:=fun e=>by
    have:=i.cel;rw[<-e,l] at this;injection this with this;injection this with _ this;exact absurd this (by decide)
   have K:((w2.alloc (.cells #[.bool true,.int .i64 (id:Int),.slice none 0 0] a8A)).setCell ⟨s,3+j,none⟩ (.pointer (some ⟨w2.heap.size,0,none⟩))).heap[N]? =some (.cells rpZ TReply (0,0)):=(A5 _ _ _ _ a8).trans l;have hb4:Fr B w ((w2.alloc (.cells #[.bool true,.int .i64 (id:Int),.slice none 0 0] a8A)).setCell ⟨s,3+j,none⟩ (.pointer (some ⟨w2.heap.size,0,none⟩))):=
    (d.out.2.1.trans (Fr.of z (Ad b.out.2.2 d.out.2.1.size))).setCell i.sge i.cel _
   have E:=qh (aI a1 hb4);have g1:(0:Int)<=(j:Int):=by omega
   have g2:(j:Int)<8:=by omega
   clear i a0 a1 z a8 l hb4;unfold fdV at c3;go_wp2_with (refine Ao rfl TReply (.tmp 4) (.tmp 35) rfl N (noC 0 (j:Int)) rfl rfl TReply rpZ K (by kernel_rfl) (by kernel_rfl) (by kernel_rfl) ?_);refine Aj (v:=.agg (noC 0 (j:Int))) (Ap rfl _ _ N TReply _ (0,0) _ rfl (AF _ _ _ _ TReply (0,0) K) Tryz.underlying41 rfl (by kernel_rfl)) rfl ?_;rw[V.out];have g:B<=N:=by rw[Q.out];exact b.out.2.2
   exact⟨rfl,⟨_,E.out.1.setReply D k g K⟩,E.out.2.setRow g (by rw[Q.out];exact Aa _) _⟩
  ·have af:¬(o:Int)=0:=by omega
   obtain rfl:T2=σ.T:=X.out hw;have V:=qh (show a1n c σ p=(σ,o,0) by rw[A.out,Ag (by omega),Ah hw]);have P:=qh (a1G o w2);clear hw;go_wp2_with fail;refine P.out.mono ?_;rintro e w3 ⟨rfl,hb3⟩;have l:=(hb3.block N d.out.2.2).trans aa.out;have E:=qh (aI (d.out.1.below (by have:=d.out.2.1.size;omega) hb3) (d.out.2.1.trans (Fr.of hb3 (Ad b.out.2.2 d.out.2.1.size))));unfold noC;clear hb3;go_wp2_with (refine Ao rfl TReply (.tmp 4) (.tmp 25) rfl N (noC (o:Int) 0) rfl rfl TReply rpZ l (by kernel_rfl) (by kernel_rfl) (by kernel_rfl) ?_);refine Aj (v:=.agg (noC (o:Int) 0)) (Ap rfl _ _ N TReply _ (0,0) _ rfl (AF _ _ _ _ TReply (0,0) l) Tryz.underlying41 rfl (by kernel_rfl)) rfl ?_;rw[V.out];have g:B<=N:=by rw[Q.out];exact b.out.2.2
   exact⟨rfl,⟨fp,E.out.1.setReply D k g l⟩,E.out.2.setRow g (by rw[Q.out];exact Aa _) _⟩
end
section
open Go.RowKit Go.ChangeMaps Go.MapKept
abbrev TOp:TypeId:=32
variable {w w' : World} {L B C s t sn c : Nat} {fp : Nat → Option Nat} {σ : StM}
theorem b5y(T:Tr)(i u:Nat)(h:(a2S T i u).1≠0):(a2S T i u).2=T:=by
 unfold a2S at h⊢;by_cases a:fileT T i≠0
 ·rw[Ah a]
 rw[Ag a] at h⊢;cases c:getK i T with
 | none=>rfl
 | some x=>
  simp only[c] at h⊢;by_cases h3:x.n.closed=true
  ·rw[Ah h3]
  rw[Ag h3] at h⊢;by_cases b:MTn<u
  ·rw[Ah b]
  rw[Ag b] at h⊢;exact absurd rfl h
def a6g(σ:StM)(n:Int):Bool:=if 0<=n/\n<8 then(match σ.fds n.toNat with | some o=> !o.wr | none=>false) else false
theorem a6f(σ:StM)(n:Int)(h:a6g σ n=false):∀(k:Nat) o,n=(k:Int)->k<8->σ.fds k=some o->o.wr≠false:=by
 intro k o a hk c b;subst a;unfold a6g at h;rw[Ah ⟨by omega,by omega⟩] at h;simp[c,b] at h
theorem a7g(σ:StM)(n:Int)(h:a6g σ n=true):∃(k:Nat) (o:Opn),n=(k:Int)/\k<8/\σ.fds k=some o/\o.wr=false:=by
 unfold a6g at h;by_cases b:0<=n/\n<8
 ·rw[Ah b] at h;cases a:σ.fds n.toNat with
  | none=>rw [a] at h;cases h
  | some o=>rw [a] at h;exact⟨n.toNat,o,by omega,by omega,a,by simpa using h⟩
 ·rw[Ag b] at h;cases h
def a2v(σ:StM)(n:Int)(u:Nat):StM×Nat:=
 if a2w σ n=true then(match σ.fds n.toNat with
  | none=>(σ,26)
  | some o=>if (a2S σ.T o.id u).1≠0 then(σ,(a2S σ.T o.id u).1) else(⟨(a2S σ.T o.id u).2,σ.S,σ.now,a7Q σ.fds n.toNat none⟩,0))
 else if a6g σ n=true then(⟨σ.T,σ.S,σ.now,a7Q σ.fds n.toNat none⟩,0) else(σ,26)
theorem a9x(h:StIn w L B C s t sn fp σ)(ok:TrOk c σ.T)(U:∀i o,i<8->σ.fds i=some o->o.id<=1000000)(a3:L<=B)(v:C<=B)(hB:B<=w.heap.size)
  (k:Int) (ps ts:ByteArray) (fd H n:Int) (til:Nat) (sp:Int) (da:Option Addr) (dl dc:Nat):
  Calls Tryz.prog 85 #[.pointer (some ⟨s,0,none⟩),.agg (a0b k ps ts fd H n til sp da dl dc)] w fun e w'=>e= .returned (.int .i64 ((a2v σ fd til).2:Int))/\(∃a8,StIn w' L B C s t sn a8 (a2v σ fd til).1)/\Fr B w w':=by
 obtain⟨w0,u⟩:=qnm (w.alloc (.cells (a0b k ps ts fd H n til sp da dl dc) TOp));have hb0:=qba u;have D:w0.heap[w.heap.size]? =some (.cells (a0b k ps ts fd H n til sp da dl dc) TOp (0,0)):=by rw[u];exact Ae w _
 have h0:=h.below (Ad v hB) hb0;have V:B<=w0.heap.size:=Ad hB hb0.size;have o3:w0.cell? ⟨w.heap.size,3,none⟩=some (.int .i64 fd):=a0a D 3;have o6:w0.cell? ⟨w.heap.size,6,none⟩=some (.int .u64 (til:Int)):=a0a D 6;have c0:w0.cell? ⟨s,0,none⟩=some (.pointer (some ⟨t,0,none⟩)):=a0a h0.cel 0;have b:=qh (aI hb0 (aI V hB));have x:=qh h0;have P:=qh D;have Y:=qh u;have a6:=qh (aI ok U);have J:=qh (show w.heap.size<w0.heap.size by rw[u];simp);clear h h0 hb0 D V u ok U;go_enter Tryz.func85,Tryz.ntmps85;go_upto_region 1 with fail
 rw[<-Y.out];obtain⟨N,hN⟩:=qnm w.heap.size;rw[<-hN] at P J o3 o6⊢;have HN:=qh hN;clear hN Y;cases f:a2w σ fd with
 | true=>
  obtain⟨j,o,rfl,y,Q,m⟩:=a4h σ fd f;have A:=qh (a9n x.out j y o Q true m);have R:a2v σ (j:Int) til=if (a2S σ.T o.id til).1≠0 then(σ,(a2S σ.T o.id til).1) else(⟨(a2S σ.T o.id til).2,σ.S,σ.now,a7Q σ.fds j none⟩,0):=by
   unfold a2v;rw[Ah f];have:((j:Int)).toNat=j:=by omega
   rw[this,Q]
  have O:=qh R;have hid:=a6.out.2 j o y Q;have W:=qh (b5y σ.T o.id til);have a0:=qh (show ∀mb F G,TreeIn w0.drew L B t mb F G σ.T->_ from fun mb F G hT=>b2S (w:=w0.drew) hT a6.out.1 o.id til hid);have a7:=qh y;clear R f Q m hid;go_wp2_with fail;refine A.out.mono ?_;rintro e w1 ⟨⟨g,rfl,hg,hO⟩,rfl⟩;obtain⟨ov,a2,a9⟩:=hO;have d1:w0.cell? ⟨g,1,none⟩=some (.int .i64 (o.id:Int)):=a0a a2 1;obtain⟨mb,F,G,hT⟩:=x.out.tree;have Z:=qh (a0.out mb F G (hT.below (Ab _ w0).drew));clear a2 a9 hT a0 hg;go_upto_region 3 with fail
  refine a0K 10 (by kernel_rfl) (by kernel_rfl) rfl ?_;simp only[qtc,a3E];repeat still_step
  refine AK ?_;go_wp2_with fail;refine Z.out.mono ?_;rintro e w2 ⟨rfl,a5,z⟩;have a4:∀C' ty fr k,w0.drew.heap[k]? =some (.cells C' ty fr)->ty≠a17->¬TM w0.drew B k:=fun C' ty fr k hk aa ⟨_,h⟩=>by
   rcases h with⟨C2,ab,h⟩ | ⟨es,cl,h⟩
   ·rw[hk] at h;injection h with h;injection h with _ h;exact aa h
   ·rw[hk] at h;injection h with h;cases h
  have E:w2.heap[N]? =some (.cells (a0b k ps ts (j:Int) H n til sp da dl dc) TOp (0,0)):=(z.block N J.out (a4 _ _ _ N P.out (by decide))).trans P.out;have a1:StIn w2 L B C s t sn fp ⟨(a2S σ.T o.id til).2,σ.S,σ.now,σ.fds⟩:=(x.out.below (Ad v b.out.2.1) (Ab _ w0).drew).setTree v b.out.2.1 z ⟨_,_,_,a5⟩;have I:Fr B w w2:=((Fr.of b.out.1 b.out.2.2).trans (Fr.of (Ab _ w0).drew b.out.2.1)).trans (Fr.tchg z b.out.2.1);have d:=qh (aI a1 I);have ad:=qh E;clear a5 z a1 I Z d1 c0 o3 o6 a4;generalize a2S σ.T o.id til=r at *;obtain⟨M,T2⟩:=r;simp only at d O W⊢;by_cases hw:M=0
  ·subst hw;have K:=qh (show a2v σ (j:Int) til=(⟨T2,σ.S,σ.now,a7Q σ.fds j none⟩,0) by rw[O.out,Ag (by simp)]);have o3:w2.cell? ⟨N,3,none⟩=some (.int .i64 (j:Int)):=a0a E 3;have a:=d.out.1.below (by have:=d.out.2.size;omega) (Ab _ w2).drew;have y:=a7.out;have c3:=d.out.1.fdcell j y;unfold fdV at c3;have f3:=a0e d.out.1.cel (3+j);have p:=a.setFd a3 v j y none none rfl;have hb4:Fr B w (w2.drew.setCell ⟨s,3+j,none⟩ (.pointer none)):=(d.out.2.trans (Fr.of (Ab _ w2).drew (by have:=d.out.2.size;omega))).setCell a.sge a.cel _;have X:=qh (aI p hb4);have g1:(0:Int)<=(j:Int):=by omega
   have g2:(j:Int)<8:=by omega
   clear a p hb4 E;go_upto_region 9 with fail
   refine a0K 6 (by kernel_rfl) (by kernel_rfl) rfl ?_;simp only[qtc,a3E];repeat still_step
   refine AK ?_;go_wp2_with fail;go_ret;rw[K.out];exact⟨rfl,⟨_,X.out.1⟩,X.out.2⟩
  ·have ac:¬(M:Int)=0:=by omega
   obtain rfl:T2=σ.T:=W.out hw;have K:=qh (show a2v σ (j:Int) til=(σ,M) by rw[O.out,Ah hw]);clear hw E;go_wp2_with fail;go_ret;rw[K.out];exact⟨rfl,⟨fp,d.out.1⟩,d.out.2⟩
 | false=>
  have A:=qh (a6D x.out fd true (a3G σ fd f));cases l:a6g σ fd with
  | true=>
   obtain⟨j,o,rfl,y,Q,m⟩:=a7g σ fd l;have q:=qh (a9n x.out j y o Q false m);have K:=qh (show a2v σ (j:Int) til=(⟨σ.T,σ.S,σ.now,a7Q σ.fds j none⟩,0) by
    unfold a2v;have:((j:Int)).toNat=j:=by omega
    rw[Ag (by rw[f];simp),Ah l,this])
   have a:=x.out.below (by have:=b.out.2.1;omega) (Ab _ w0).drew;have c3:=x.out.fdcell j y;unfold fdV at c3;have f3:=a0e x.out.cel (3+j);have p:=a.setFd a3 v j y none none rfl;have hb4:Fr B w (w0.drew.setCell ⟨s,3+j,none⟩ (.pointer none)):=((Fr.of b.out.1 b.out.2.2).trans (Fr.of (Ab _ w0).drew b.out.2.1)).setCell a.sge a.cel _;have X:=qh (aI p hb4);have g1:(0:Int)<=(j:Int):=by omega
   have g2:(j:Int)<8:=by omega
   clear a p hb4 f l Q m;go_wp2_with fail;refine A.out.mono ?_;rintro e w1 ⟨rfl,rfl⟩;go_wp2_with fail;refine q.out.mono ?_;rintro e w1 ⟨⟨g,rfl,_⟩,rfl⟩;go_upto_region 9 with fail
   refine a0K 6 (by kernel_rfl) (by kernel_rfl) rfl ?_;simp only[qtc,a3E];repeat still_step
   refine AK ?_;go_wp2_with fail;go_ret;rw[K.out];exact⟨rfl,⟨_,X.out.1⟩,X.out.2⟩
  | false=>
   have q:=qh (a6D x.out fd false (a6f σ fd l));have K:=qh (show a2v σ fd til=(σ,26) by
    unfold a2v;rw[Ag (by rw[f];simp),Ag (by rw[l];simp)])
   clear f l;go_wp2_with fail;refine A.out.mono ?_;rintro e w1 ⟨rfl,rfl⟩;go_wp2_with fail;refine q.out.mono ?_;rintro e w1 ⟨rfl,rfl⟩;go_wp2_with fail;go_ret;rw[K.out];exact⟨rfl,⟨fp,x.out⟩,Fr.of b.out.1 b.out.2.2⟩
end
section
open Go.RowKit Go.ChangeMaps Go.MapKept
def a50(k:Nat):Bool:=!(k == 4 || k == 11 || k == 12 || k == 17)
theorem b2Q(k:Nat)(hk:1<=k/\k<=17)(ps j:ByteArray)(fd b n:Int)(til:Nat)(f:Int)(h:Option Addr)(l i:Nat)(w:World):
  Calls Tryz.prog 38 #[.agg (a0b (k:Int) ps j fd b n til f h l i)] w fun e w'=>e= .returned (.bool (a50 k))/\Below w.heap.size w w':=by
 obtain⟨g,a⟩:=qnm (w.alloc (.cells (a0b (k:Int) ps j fd b n til f h l i) TOp));have c:g.heap[w.heap.size]? =some (.cells (a0b (k:Int) ps j fd b n til f h l i) TOp (0,0)):=by rw[a];exact Ae w _
 have m:g.cell? ⟨w.heap.size,0,none⟩=some (.int .i64 (k:Int)):=a0a c 0;have HB:=qh (show Below w.heap.size w g by rw[a];exact(Ab _ w).alloc (Aa _) _);have d:=qh a;clear c a;go_enter Tryz.func38,Tryz.ntmps38;go_upto_region 1 with fail
 rw[<-d.out];clear d;obtain rfl | rfl | rfl | rfl | rfl | rfl | rfl | rfl | rfl | rfl | rfl | rfl | rfl | rfl | rfl | rfl | rfl:k=1∨k=2∨k=3∨k=4∨k=5∨k=6∨k=7∨k=8∨k=9∨k=10∨k=11∨k=12∨k=13∨k=14∨k=15∨k=16∨k=17:=by omega
 all_goals clear hk
 all_goals go_wp2_with fail
 all_goals go_ret
 all_goals exact⟨rfl,HB.out⟩
def safeN(k:Nat)(wr:Bool):Nat:=if k=17 then 2 else if k=14 then 1 else if k=6/\wr=true then 1 else 0
theorem b5z(k:Nat)(hk:1<=k/\k<=17)(ps j:ByteArray)(fd b n:Int)(til:Nat)(f:Int)(h:Option Addr)(l i:Nat)(wr:Bool)(w:World):
  Calls Tryz.prog 42 #[.agg (a0b (k:Int) ps j fd b n til f h l i),.bool wr] w fun e w'=>e= .returned (.int .i64 (safeN k wr:Int))/\Below w.heap.size w w':=by
 obtain⟨g,a⟩:=qnm (w.alloc (.cells (a0b (k:Int) ps j fd b n til f h l i) TOp));have c:g.heap[w.heap.size]? =some (.cells (a0b (k:Int) ps j fd b n til f h l i) TOp (0,0)):=by rw[a];exact Ae w _
 have m:g.cell? ⟨w.heap.size,0,none⟩=some (.int .i64 (k:Int)):=a0a c 0;have HB:=qh (show Below w.heap.size w g by rw[a];exact(Ab _ w).alloc (Aa _) _);have d:=qh a;clear c a;go_enter Tryz.func42,Tryz.ntmps42;go_upto_region 1 with fail
 rw[<-d.out];clear d;obtain rfl | rfl | rfl | rfl | rfl | rfl | rfl | rfl | rfl | rfl | rfl | rfl | rfl | rfl | rfl | rfl | rfl:k=1∨k=2∨k=3∨k=4∨k=5∨k=6∨k=7∨k=8∨k=9∨k=10∨k=11∨k=12∨k=13∨k=14∨k=15∨k=16∨k=17:=by omega
 all_goals clear hk
 all_goals cases wr
 all_goals go_wp2_with fail
 all_goals go_ret
 all_goals exact⟨rfl,HB.out⟩
end
section
open Go.RowKit Go.ChangeMaps Go.MapKept
theorem OwnI.nil(w:World)(B:Nat):OwnI w B (.slice none 0 0) []:=A6 w B TI64 1
theorem OwnI.alloc{w:World}{B:Nat}{v:Value}{l:List Nat}(h:OwnI w B v l)(o:Obj):OwnI (w.alloc o) B v l:=h.below ((Ab _ _).alloc (Aa _) o)
theorem OwnI.blk{w:World}{B:Nat}{v:Value}{l:List Nat}(h:OwnI w B v l):∀k,v.ownBlock=some k->B<=k:=fun k hk=>(A8 h k hk).1
theorem b6e:(Tryz.prog.info? TI64).map (fun i=>(i.zero,i.size,i.bytes))=some (some (.int .i64 0),1,8):=by kernel_rfl
theorem a6b{w:World}(B:Nat)(v:Value)(ls:List Nat)(h:OwnI w B v ls)(x:Nat)(g:TypeId)(k:ls.length+1<=1000000)(d:B<=w.heap.size):
  ∃b w',(Builtin.append_ #[52,52] g #[v,.slice (some ⟨w.heap.size,0,none⟩) 1 1]).run Tryz.prog (w.alloc (.cells #[.int .i64 (x:Int)] TI64))= .ok b w'/\OwnI w' B b (ls ++[x])/\
   (w.alloc (.cells #[.int .i64 (x:Int)] TI64)).grownBy w' v.ownBlock:=by
 obtain⟨i,o,c,e,f⟩:=a1U b6e;obtain⟨b,w',l,m,h3,_,p⟩:=run_append_own_at (P:=Tryz.prog) (w.alloc (.cells #[.int .i64 (x:Int)] TI64)) B 52 g TI64 i (.int .i64 0) 1 8 Tryz.underlying52 o c e f rfl (by decide) v ls.length (ls.map fun(n:Nat)=>Value.int .i64 (n:Int))
  (h.alloc _) ⟨w.heap.size,0,none⟩ 1 1 [.int .i64 (x:Int)] (by simp) (fun j u a=>by
   match j,a with
   | 0,a=>
    simp at a;subst a;rw[show(⟨w.heap.size,0,none⟩:Addr).add 0=⟨w.heap.size,0,none⟩ from rfl,Az];rfl
   | j+1,a=>simp at a) (by
   intro u a;simp at a;subst a;rfl) (by unfold maxLen;omega) (by omega) (by simp;omega)
 refine⟨b,w',l,?_,h3⟩;unfold OwnI;simpa using m
theorem a2V{w:World}{c:Array Oper}{rest:List Oper}{o:Oper}{a:Act}{Q:Exit->Act->World->Prop}(f:o.guard=none)(s x:Operand)
  (m:o.op= .call { callee:=.builtin .append,args:=#[s,x],argTypes:=#[52,52] }) (l:a.eval x= .slice (some ⟨w.heap.size,0,none⟩) 1 1)
  (B:Nat) (v:Value) (ls:List Nat) (j:a.eval s=v) (h:OwnI w B v ls) (y:Nat) (d:ls.length+1<=1000000) (b:B<=w.heap.size)
  (g:∀e w',OwnI w' B e (ls ++[y])->(w.alloc (.cells #[.int .i64 (y:Int)] TI64)).grownBy w' v.ownBlock->wpList Tryz.prog c Q rest (a.put o.dst e) w'):
  wpList Tryz.prog c Q (o :: rest) a (w.alloc (.cells #[.int .i64 (y:Int)] TI64)):=by
 refine BX f fun _ hK=>?_
 obtain⟨e,w',i,k,h3⟩:=a6b B v ls h y o.type d b;unfold Oper.wp execOp;simp only[m,resolve,invoke,builtin,Cs,Cr,BJ,BO,Au,Bf,j,l,i];exact hK _ _ (g e w' k h3)
variable {w : World} {L B C s t sn : Nat} {fp : Nat → Option Nat} {σ : StM}
theorem b03(h:StIn w L B C s t sn fp σ):
  Calls Tryz.prog 43 #[.pointer (some ⟨s,0,none⟩)] w fun e w'=>(∃a c n,e= .returned (.slice a n c)/\n<=8/\(n=0↔∀i,i<8->σ.fds i=none))/\Below w.heap.size w w':=by
 have P:∀i,i<8->∃q:Option Addr,fdV fp i= .pointer q/\(σ.fds i=none->q=none)/\(σ.fds i≠none->∃g,q=some ⟨g,0,none⟩):=fun i y=>by
  refine⟨_,rfl,fun K=>?_,fun K=>?_⟩
  ·rw[h.no i y K];rfl
  ·cases p:σ.fds i with
   | none=>exact absurd p K
   | some o=>
    obtain⟨g,hg,_⟩:=h.fd i o y p;exact⟨g,by rw[hg];rfl⟩
 have HQ:=qh P;obtain⟨v0,D⟩:=qnm (fdV fp 0);obtain⟨v1,G⟩:=qnm (fdV fp 1);obtain⟨v2,H⟩:=qnm (fdV fp 2);obtain⟨v3,E⟩:=qnm (fdV fp 3);obtain⟨v4,u⟩:=qnm (fdV fp 4);obtain⟨X,J⟩:=qnm (fdV fp 5);obtain⟨v6,x⟩:=qnm (fdV fp 6);obtain⟨Y,F⟩:=qnm (fdV fp 7);have W:=qh (show ∀k q,k<8->fdV fp k= .pointer q->∀w,(Instr.index 134 (.agg #[v0,v1,v2,v3,v4,X,v6,Y]) (.int .i64 (k:Int))).run Tryz.prog w= .ok (.pointer q) w from fun k q hk Q w=>by
  refine a0W w _ k q hk ?_;have R:k=0∨k=1∨k=2∨k=3∨k=4∨k=5∨k=6∨k=7:=by omega
  rw[<-Q];rcases R with rfl | rfl | rfl | rfl | rfl | rfl | rfl | rfl <;>simp [D,G,H,E,u,J,x,F])
 have r:∀i v,i<8->v=fdV fp i->w.cell? ⟨s,3+i,none⟩=some v:=fun i v y hv=>by rw[hv];exact h.fdcell i y
 have c0:=r 0 v0 (by omega) D;have c1:=r 1 v1 (by omega) G;have c2:=r 2 v2 (by omega) H;have c3:=r 3 v3 (by omega) E;have c4:=r 4 v4 (by omega) u;have c5:=r 5 X (by omega) J;have c6:=r 6 v6 (by omega) x;have c7:=r 7 Y (by omega) F;simp only[Nat.reduceAdd] at c0 c1 c2 c3 c4 c5 c6 c7;clear h P r D G H E u J x F;go_enter Tryz.func43,Tryz.ntmps43;go_wp2_with fail;go_loopw [3,10] (fun V k wr=>∃(j:Nat) (l:List Nat),j<=8/\k= .int .i64 (j:Int)/\OwnI wr w.heap.size V l/\l.length<=j/\(l=[]↔∀i,i<j->σ.fds i=none)/\Ext w.heap.size w wr) (fun _ k _=>8 - (intOf k).toNat);case atStart=>exact ⟨0,[],by omega,rfl,OwnI.nil _ _,by simp,⟨fun _ i y=>by omega,fun _=>rfl⟩,Ext.refl w⟩
 case round=>
  obtain⟨j,l,Z,rfl,M,b,m,d⟩:=hrel;by_cases z:j<8
  ·obtain⟨q,P,A,U⟩:=HQ.out j z;have hx:=W.out j q z P;have e1:(j:Int)<8:=by omega
   obtain⟨O,f⟩:=qnm (j+1);have e3:IntKind.i64.wrap ((j:Int)+1)=(O:Int):=by rw[Ak _ (by omega)];omega
   have N:=qh (aI m (aI b (aI f d)));clear m b f Z P;by_cases p:σ.fds j=none
   ·obtain rfl:=A p;have I:=qh p;clear A U p d;go_wp2_with fail;go_roundw;case rel=>
     obtain⟨m,b,f,d⟩:=N.out;refine⟨O,l,by omega,rfl,M,by omega,?_,d⟩;rw[m];constructor
     ·intro h i y;rcases BE i j with K | K
      ·exact h i K
      ·obtain rfl:i=j:=by omega
       exact I.out
     ·intro h i y;exact h i (by omega)
    case measure=>
     obtain⟨m,b,f,d⟩:=N.out;show 8 - (O:Int).toNat<8 - (j:Int).toNat;omega
   ·obtain⟨g,rfl⟩:=U p;have I:=qh p;clear A U p;go_wp2_with (at_builtin;refine a2V rfl _ _ rfl rfl w.heap.size _ l rfl M j (by have:=N.out.2.1;omega) d.2 ?_;intro v' w' T S);go_roundw;case rel=>
     obtain⟨m,b,f,d⟩:=N.out;refine⟨O,l ++[j],by omega,rfl,T,by simp;omega,?_,Ext.grown (d.alloc _) S (fun k hk=>M.blk k hk)⟩;constructor
     ·intro h;simp at h
     ·intro h;exact absurd (h j (by omega)) I.out
    case measure=>
     obtain⟨m,b,f,d⟩:=N.out;show 8 - (O:Int).toNat<8 - (j:Int).toNat;omega
  ·obtain rfl:j=8:=by omega
   obtain⟨a,c,rfl,_,_⟩:=M.at (n:=l.length) rfl;have HF:=qh (aI m (aI b d));obtain⟨n,A⟩:=qnm l.length;rw[<-A];have HN:=qh A;clear m b d M z Z A;go_wp2_with fail;go_ret;obtain⟨m,b,d⟩:=HF.out;exact⟨⟨a,c,n,rfl,by rw[HN.out];exact b,by rw[HN.out,Ax];exact m⟩,d.1⟩
end
end Go.Proofs.YtbemfdcjieakdaaGreatDoor
