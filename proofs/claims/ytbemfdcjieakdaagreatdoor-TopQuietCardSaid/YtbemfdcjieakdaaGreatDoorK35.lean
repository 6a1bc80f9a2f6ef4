/- MPoint; MNewest; Concat0. -/
import Derived.Test.YtbemfdcjieakdaaGreatDoorK34
set_option maxRecDepth 100000
set_option maxHeartbeats 8000000
namespace Go.Proofs.YtbemfdcjieakdaaGreatDoor
section
open Go.RowKit Go.ChangeMaps Go.MapKept
theorem b7q(s g:Int)(pn:Nat)(m:Mk)(a:Option Addr)(cap:Nat)(w:World)(c:isPlan s pn g)(u:m.right g)(x:m.state.length+94<=128 * pn)(o:Bs w a (128 * pn) cap (a1r pn m)):
  Calls Tryz.prog 276 #[.agg #[.int .i64 s,.int .i64 (pn:Int),.int .i64 g],.slice a (128 * pn) cap] w fun e w'=>PtPost 0 m w.heap.size e w'/\Below w.heap.size w w':=by
 have p:=c.bd;obtain⟨n,j,r,b,t,f⟩:=u;have k:MT=1099511627776:=rfl;have v:=a2j 0 (a2c m.gen m.seq m.seg.toNat m.head m.state.length);have d:=b5H pn g m ⟨n,j,r,b,t,f⟩ (by omega) _ rfl;have i:=b7r s pn g a (128 * pn) cap w m.gen m.seq m.seg.toNat m.state.length _ m.head _ _ c o (by omega) ⟨by omega,by omega,by omega,f,by omega,v,a0v _⟩;rw[show((pn:Int)).toNat=pn from rfl] at d;rw[d] at i;refine i.mono ?_;rintro e w' ⟨h,l⟩;refine⟨?_,l⟩;have q:b8X 0 m.gen m.seq m.seg.toNat m.head m.state.length (m.state ++List.replicate (128 * pn - 94 - m.state.length) 0)=m:=by
  unfold b8X;rw[Ah rfl,Bk rfl];obtain⟨G,Q,y,H,T⟩:=m;simp only at *;rw[Int.toNat_of_nonneg b]
 rw[q] at h;exact h
theorem StAt.any0{w:World}{L L' B B' C C' s:Nat}{σ:StM}(h:StAt w L B C s σ)(e:σ.S.l=[])(f:∀i,σ.fds i=none)(c:L'<=L)(a:B'<=B):StAt w L' B' C' s σ:=by
 obtain⟨t,d,g,h⟩:=h;exact⟨t,d,g,Ad a h.sge,h.cel,(h.tree.base c).weaken a,h.snaps.any0 e c a,h.no,fun i o j b=>by rw[f] at b;cases b⟩
structure PtGood (g:Int) (pn c:Nat) (m:Mk) (T:Tr) (Sn:SnS) (now:Nat):Prop where
 right:m.right g
 room:m.state.length+94<=128 * pn
 st:m.state=stBytes T Sn now
 tr:TrGood c T
 shut:Shut0 T
 sn:Sn0 Sn
 nw:now<=1099511627776
def b8a(w:World)(B:Nat)(m:Mk)(a:Option Addr)(b:Nat)(e:Option Addr)(d c:Nat):Prop:=Own w B (.slice a 32 b) m.head/\Own w B (.slice e d c) m.state
theorem a9a{w:World}{d sb mb n:Nat}{S:List UInt8}(hD:Dk w d sb mb n S nM)(s g:Int)(pn k c:Nat)(hp:isPlan s pn g)(hk:k<2)(hn:1+2 * pn<=n)(m:Mk)(T:Tr)(Sn:SnS)(y:Nat)(hg:PtGood g pn c m T Sn y)(hc:c<=60000)(V:catS S nM (1+k * pn) pn=a1r pn m):
  Calls Tryz.prog 208 #[.pointer (some ⟨d,0,none⟩),.agg #[.int .i64 s,.int .i64 (pn:Int),.int .i64 g],.int .i64 (k:Int)] w fun e w'=>
   (∃O L z lt D st,e= .returned (.tuple #[.agg #[.int .u64 (m.gen:Int),.int .u64 (m.seq:Int),.int .i64 m.seg,.slice O 32 L,.slice z lt D],.pointer (some ⟨st,0,none⟩),.bool true])/\b8a w' w.heap.size m O L z lt D/\StAt w' w.heap.size w.heap.size w.heap.size st ⟨T,Sn,y,fun _=>none⟩)/\Below w.heap.size w w':=by
 obtain⟨w0,G⟩:=qnm ((w.alloc (.cells #[.int .i64 s,.int .i64 (pn:Int),.int .i64 g] a14)).alloc (.cells #[.int .u64 0,.int .u64 0,.int .i64 0,.slice none 0 0,.slice none 0 0] a1N));have hb0:Below w.heap.size w w0:=by rw[G];exact(((Ext.refl w).alloc _).alloc _).1
 have a3:w0.heap[w.heap.size]? =some (.cells #[.int .i64 s,.int .i64 (pn:Int),.int .i64 g] a14 (0,0)):=by rw[G];exact(AW _ _ _ (by simp)).trans (Ae w _)
 have a0:w0.heap[w.heap.size+1]? =some (.cells #[.int .u64 0,.int .u64 0,.int .i64 0,.slice none 0 0,.slice none 0 0] a1N (0,0)):=by
  rw[G];have:=Ae (w.alloc (.cells #[.int .i64 s,.int .i64 (pn:Int),.int .i64 g] a14)) (.cells #[.int .u64 0,.int .u64 0,.int .i64 0,.slice none 0 0,.slice none 0 0] a1N)
  rwa [AR] at this
 obtain⟨N,hN⟩:=qnm w.heap.size;rw[<-hN] at a3 a0;have h:=qh (aI hD (aI hp (aI hg (aI V (aI hk hn)))));have l:=qh (aI G (aI hb0 (aI a3 (aI a0 hN))));have ak:=qh (fun W=>b00 s pn g (k:Int) W hp (by omega) (by omega));obtain⟨first,r⟩:=qnm (1+k * pn);have aj:(1+(k:Int) * (pn:Int))=(first:Int):=by rw[r];push_cast;rfl
 rw[aj] at ak;have a7:first+pn<=n:=by
  rw[r];rcases(show k=0∨k=1 by omega) with rfl | rfl <;>omega
 have ay:n<=4096:=hD.2.2.1;have p:=qh (aI r (aI a7 ay));clear hD hp hg V hk hn G hb0 a3 a0 hN r a7 aj;go_enter Tryz.func208,Tryz.ntmps208;go_upto_region 1 with fail
 rw[<-l.out.1,<-l.out.2.2.2.2];obtain⟨p0,p1,p2⟩:=a0C l.out.2.2.1;go_wp2_with fail;refine(ak.out w0).mono ?_;rintro e w1 ⟨rfl,hb1⟩;have H1:=qh hb1;obtain⟨p0,p1,p2⟩:=a0C ((hb1.block N (ltH l.out.2.2.1)).trans l.out.2.2.1);clear hb1;go_wp2_with fail;go_loopw [11,12,13,14,26] (fun ar _ _ _ i wr=>∃j:Nat,j<=pn/\i= .int .i64 (j:Int)/\Own wr w1.heap.size ar (catS S nM first j)/\Below w1.heap.size w1 wr) (fun _ _ _ _ i _=>pn - (intOf i).toNat);case atStart=>exact ⟨0,by omega,rfl,Own.nil _ _,Ab _ _⟩
 case round=>
  obtain⟨j,hj,rfl,M,f⟩:=hrel;by_cases B:j<pn
  ·have e1:(j:Int)<(pn:Int):=by omega
   have F:Below w.heap.size w w1:=l.out.2.1.trans (H1.out.mono l.out.2.1.size);have ao:=a6H (h.out.1.below (F.trans (f.mono F.size))) (first+j) (by have:=p.out;omega);have a1:=(h.out.1).sect_len (first+j) (by have:=p.out;omega);have af:=qh ao;obtain⟨fj,I⟩:=qnm (first+j);rw[<-I] at af a1;have e2:IntKind.i64.wrap ((first:Int)+(j:Int))=(fj:Int):=by have:=p.out;rw[Ak _ (by omega)];omega
   obtain⟨j2,H⟩:=qnm (j+1);have e3:IntKind.i64.wrap ((j:Int)+1)=(j2:Int):=by have:=p.out;rw[Ak _ (by omega)];omega
   have a5:(catS S nM first j).length<=1000000:=by rw[h.out.1.catS_len first j (by have:=p.out;omega)];have:=p.out;omega
   have HJ:=qh (aI H (aI B (aI I (aI a5 a1))));have HO:=qh (aI M f);have R:=M.ltp;have aB:=qh R;clear M f F ao a1 I H a5 B hj R;go_wp2_with fail;refine af.out.mono ?_;rintro e w2 ⟨v2,rfl,ag,hb2⟩;obtain⟨a2,c2,rfl,ap⟩:=ag.bsn (n:=128) HJ.out.2.2.2.2;obtain⟨M,f⟩:=HO.out;have Y:=M.below hb2;have o:Below w1.heap.size w1 w2:=f.trans (hb2.mono f.size);have am:=qh (aI o (aI Y HJ.out));clear ag hb2 M f;go_wp2_with (at_builtin;(refine a1x rfl _ _ rfl w1.heap.size u11 (catS S nM first j) rfl Y a2 128 c2 _ rfl ap (by have:=HJ.out;omega) o.size ?_;intro v3 w3 aq aw aA));go_roundw;case rel=>
    obtain⟨o,_,H,B,I,_⟩:=am.out;refine⟨j2,by omega,rfl,?_,o.grown aw o.size (fun x hx=>Y.ge x hx)⟩;rw[H,a6L,<-I];exact aq
   case measure=>
    obtain⟨_,_,H,B,_⟩:=am.out;show pn - (j2:Int).toNat<pn - (j:Int).toNat;omega
  ·obtain rfl:j=pn:=by omega
   clear B;rw[p.out.1,h.out.2.2.2.1] at M;obtain⟨ab,cb,rfl,a8⟩:=M.bsn (n:=128 * j) (a37 j m h.out.2.2.1.right.2.2.2.2.2 h.out.2.2.1.room);have ae:=(f.block N (ltH ((H1.out.block N (ltH l.out.2.2.1)).trans l.out.2.2.1))).trans ((H1.out.block N (ltH l.out.2.2.1)).trans l.out.2.2.1);obtain⟨p0,p1,p2⟩:=a0C ae;have ac:=qh (b7q s g j m ab cb wr h.out.2.1 h.out.2.2.1.right h.out.2.2.1.room a8);have HR:=qh (show Below w0.heap.size w0 wr from H1.out.trans (f.mono H1.out.size));clear M a8 ae f;go_wp2_with fail;refine ac.out.mono ?_;rintro e w5 ⟨⟨O,lh,L,z,lt,D,rfl,t,E⟩,hb5⟩;obtain rfl:lh=32:=by
    obtain⟨x1,x2,e,hx⟩:=t.bsn (n:=32) h.out.2.2.1.right.2.2.2.2.2;injection e
   obtain⟨w6,P⟩:=qnm (w5.alloc (.cells #[.int .u64 (m.gen:Int),.int .u64 (m.seq:Int),.int .i64 m.seg,.slice O 32 L,.slice z lt D] a1N));have hb6:=qba P;obtain⟨N6,a4⟩:=qnm w5.heap.size;have q:w6.heap[N6]? =some (.cells #[.int .u64 (m.gen:Int),.int .u64 (m.seq:Int),.int .i64 m.seg,.slice O 32 L,.slice z lt D] a1N (0,0)):=by rw[P,a4];exact Ae w5 _
   have b:Below w0.heap.size w0 w6:=(HR.out.trans (hb5.mono HR.out.size)).trans (hb6.mono (HR.out.trans (hb5.mono HR.out.size)).size);obtain⟨q0,q1,q2,q3,q4⟩:=a2D q;have K:=E.below hb6;obtain⟨aC,az,Z,U⟩:=K.bs;injection Z with a9 aa an
   subst a9 an;subst aa;have J:Bs w6 z m.state.length D (stBytes T Sn y):=by rw[<-h.out.2.2.1.st];exact U
   have ai:=qh (b1G z m.state.length D w6 T Sn y c h.out.2.2.1.tr hc h.out.2.2.1.shut h.out.2.2.1.sn h.out.2.2.1.nw J (by have:=h.out.2.2.1.room;have:=p.out;unfold big;omega));have H6:=qh (aI P (aI a4 (aI q (aI b (aI (t.below hb6) K)))));have X:=HR.out.size;have ax:=qh X;clear t E hb5 P hb6 a4 q b K U J ac X;go_upto_region 10 with fail
   rw[<-H6.out.1,<-H6.out.2.1];go_wp2_with fail;refine ai.out.mono ?_;rintro e w7 ⟨st,rfl,ad,hb7⟩;obtain⟨av,au,q,b,t,E⟩:=H6.out;clear av au;have u:Below w0.heap.size w0 w7:=b.trans (hb7.mono b.size);have a:=(u.block (N+1) (ltH l.out.2.2.2.1)).trans l.out.2.2.2.1;obtain⟨q0,q1,q2,q3,q4⟩:=a2D ((hb7.block N6 (ltH q)).trans q);have z0:w7.cell? ⟨N+1,0,none⟩=some (.int .u64 0):=a0a a 0;have z1:w7.cell? ⟨N+1,1,none⟩=some (.int .u64 0):=a0a a 1;have z2:w7.cell? ⟨N+1,2,none⟩=some (.int .i64 0):=a0a a 2;have z3:w7.cell? ⟨N+1,3,none⟩=some (.slice none 0 0):=a0a a 3;have z4:w7.cell? ⟨N+1,4,none⟩=some (.slice none 0 0):=a0a a 4;have f0:=a0e a 0;have f1:=a0e a 1;have f2:=a0e a 2;have f3:=a0e a 3;have f4:=a0e a 4;have aD:=ltH a;have HF:=qh (show b8a w7 wr.heap.size m O L z m.state.length D/\StAt w7 w6.heap.size w6.heap.size w6.heap.size st ⟨T,Sn,y,fun _=>none⟩/\Below w.heap.size w w7/\w7.heap[N+1]? =some (.cells #[.int .u64 0,.int .u64 0,.int .i64 0,.slice none 0 0,.slice none 0 0] a1N (0,0))/\w.heap.size<=w6.heap.size from
    ⟨⟨t.below hb7,E.below hb7⟩,ad,l.out.2.1.trans (u.mono l.out.2.1.size),a,Ad l.out.2.1.size b.size⟩)
   clear q b t E u a ad hb7 ai;go_wp2_with fail;refine Aj (v:=.tuple #[.agg #[.int .u64 (m.gen:Int),.int .u64 (m.seq:Int),.int .i64 m.seg,.slice O 32 L,.slice z m.state.length D],.pointer (some ⟨st,0,none⟩),.bool true]) (by simp[results,Tryz.results208,go_sem,z0,z1,z2,z3,z4]) rfl ?_;obtain⟨h1,h2,h3,h4,h5⟩:=HF.out;have Q:=b64 w7 (N+1) (.int .u64 (m.gen:Int)) (.int .u64 (m.seq:Int)) (.int .i64 m.seg) (.slice O 32 L) (.slice z m.state.length D);have aE:=l.out.2.2.2.2;have a6:=Ad l.out.2.1.size ax.out;refine⟨⟨O,L,z,m.state.length,D,st,rfl,⟨(a0G Q h4 (by decide) h1.1).base a6,(a0G Q h4 (by decide) h1.2).base a6⟩,?_⟩,h3.trans (Q.below h3.size (fun x _ e=>by omega))⟩;have Z:AlienS w7 (N+1):=⟨fun C ty fr A=>by rw[h4] at A;injection A with A;injection A with _ A;subst A;exact⟨by decide,by decide,by decide,by decide,by decide,by decide,by decide⟩,fun es cl A=>by rw[h4] at A;injection A with A;cases A⟩
   exact((h2.any0 (C':=w7.heap.size) h.out.2.2.1.sn.no (fun _=>rfl) h5 h5).alien Q (fun x _ e=>.inr (by rw[e];exact Z))).any0 h.out.2.2.1.sn.no (fun _=>rfl) (Aa _) (Aa _)
structure PtV where
 m:Mk
 T:Tr
 S:SnS
 now:Nat
def PtV.Good(P:PtV)(g:Int)(pn c:Nat):Prop:=PtGood g pn c P.m P.T P.S P.now
def PtV.st(P:PtV):StM:=⟨P.T,P.S,P.now,fun _=>none⟩
def a03(b a:PtV):PtV:=if a.m.gen<=b.m.gen then b else a
def PtAt(w:World)(B:Nat)(P:PtV)(a:Option Addr)(b:Nat)(f:Option Addr)(e d c:Nat):Prop:=b8a w B P.m a b f e d/\StAt w B B B c P.st
theorem PtAt.below{w w':World}{B:Nat}{P:PtV}{b f:Option Addr}{c e d st:Nat}(h:PtAt w B P b c f e d st)(g:B<=w.heap.size)(a:Below w.heap.size w w'):PtAt w' B P b c f e d st:=
 ⟨⟨h.1.1.below a,h.1.2.below a⟩,h.2.below g a⟩
theorem PtAt.base{w:World}{B B':Nat}{P:PtV}{b f:Option Addr}{c e d st:Nat}(h:PtAt w B P b c f e d st)(g:P.S.l=[])(a:B'<=B):PtAt w B' P b c f e d st:=
 ⟨⟨h.1.1.base a,h.1.2.base a⟩,h.2.any0 g (fun _=>rfl) a a⟩
theorem PtAt.set{w w':World}{B N:Nat}{P:PtV}{g n:Option Addr}{i m j st:Nat}{C:Array Value}(h:PtAt w B P g i n m j st)(f:P.S.l=[])(b:w.heap[N]? =some (.cells C a1N (0,0)))(d:Chg (fun k=>k=N) w w'):PtAt w' B P g i n m j st:=by
 have c:AlienS w N:=⟨fun C q r a=>by rw[b] at a;injection a with a;injection a with _ a;subst a;exact⟨by decide,by decide,by decide,by decide,by decide,by decide,by decide⟩,fun o p a=>by rw[b] at a;injection a with a;cases a⟩
 exact⟨⟨a0G d b (by decide) h.1.1,a0G d b (by decide) h.1.2⟩,((h.2.any0 (C':=w.heap.size) f (fun _=>rfl) (Aa _) (Aa _)).alien d (fun x _ e=>.inr (by rw[e];exact c))).any0 f (fun _=>rfl) (Aa _) (Aa _)⟩
def mkV(m:Mk)(a:Option Addr)(b:Nat)(e:Option Addr)(d c:Nat):Value:=.agg #[.int .u64 (m.gen:Int),.int .u64 (m.seq:Int),.int .i64 m.seg,.slice a 32 b,.slice e d c]
def mkA(m:Mk)(a:Option Addr)(b:Nat)(e:Option Addr)(d c:Nat):Array Value:=#[.int .u64 (m.gen:Int),.int .u64 (m.seq:Int),.int .i64 m.seg,.slice a 32 b,.slice e d c]
theorem a3j{w:World}{N:Nat}{m:Mk}{a e:Option Addr}{b d c:Nat}(h:w.heap[N]? =some (.cells (mkA m a b e d c) a1N (0,0))):
  w.cell? ⟨N,0,none⟩=some (.int .u64 (m.gen:Int))/\w.cell? ⟨N,1,none⟩=some (.int .u64 (m.seq:Int))/\w.cell? ⟨N,2,none⟩=some (.int .i64 m.seg)/\w.cell? ⟨N,3,none⟩=some (.slice a 32 b)/\w.cell? ⟨N,4,none⟩=some (.slice e d c):=a2D h
theorem b14{w:World}{d sb mb n:Nat}{S:List UInt8}(hD:Dk w d sb mb n S nM)(s g:Int)(pn c:Nat)(hp:isPlan s pn g)(hn:1+2 * pn<=n)(h j:PtV)(P:h.Good g pn c)(U:j.Good g pn c)(hc:c<=60000)(a5:catS S nM 1 pn=a1r pn h.m)(a0:catS S nM (1+pn) pn=a1r pn j.m):
  Calls Tryz.prog 129 #[.pointer (some ⟨d,0,none⟩),.agg #[.int .i64 s,.int .i64 (pn:Int),.int .i64 g]] w fun e w'=>
   (∃z y u A x st,e= .returned (.tuple #[mkV (a03 h j).m z y u A x,.pointer (some ⟨st,0,none⟩),.bool true])/\PtAt w' w.heap.size (a03 h j) z y u A x st)/\Below w.heap.size w w':=by
 obtain⟨w0,F⟩:=qnm ((w.alloc (.cells #[.int .i64 s,.int .i64 (pn:Int),.int .i64 g] a14)).alloc (.cells #[.int .u64 0,.int .u64 0,.int .i64 0,.slice none 0 0,.slice none 0 0] a1N));have hb0:Below w.heap.size w w0:=by rw[F];exact(((Ext.refl w).alloc _).alloc _).1
 have X:w0.heap[w.heap.size]? =some (.cells #[.int .i64 s,.int .i64 (pn:Int),.int .i64 g] a14 (0,0)):=by rw[F];exact(AW _ _ _ (by simp)).trans (Ae w _)
 have V:w0.heap[w.heap.size+1]? =some (.cells #[.int .u64 0,.int .u64 0,.int .i64 0,.slice none 0 0,.slice none 0 0] a1N (0,0)):=by
  rw[F];have:=Ae (w.alloc (.cells #[.int .i64 s,.int .i64 (pn:Int),.int .i64 g] a14)) (.cells #[.int .u64 0,.int .u64 0,.int .i64 0,.slice none 0 0,.slice none 0 0] a1N)
  rwa [AR] at this
 obtain⟨N,hN⟩:=qnm w.heap.size;rw[<-hN] at X V;have h0:=a9a (hD.below hb0) s g pn 0 c hp (by omega) hn h.m h.T h.S h.now P hc (by rw[Nat.zero_mul];exact a5);have h1:=fun W (hb:Below w.heap.size w W)=>a9a (hD.below hb) s g pn 1 c hp (by omega) hn j.m j.T j.S j.now U hc (by rw[Nat.one_mul];exact a0)
 rw[show((0:Nat):Int)=0 from rfl] at h0;simp only[show((1:Nat):Int)=1 from rfl] at h1;have Y:=qh h0;have aa:=qh h1;have HS:=qh (aI P.sn.no U.sn.no);have r:=qh (aI F (aI hb0 (aI X (aI V hN))));clear hD hp P U a5 a0 hn h0 h1 F hb0 X V hN;obtain⟨p0,p1,p2⟩:=a0C r.out.2.2.1;go_enter Tryz.func129,Tryz.ntmps129;go_upto_region 1 with fail
 rw[<-r.out.1,<-r.out.2.2.2.2];go_wp2_with fail;refine Y.out.mono ?_;rintro e w1 ⟨⟨z,y,u,A,x,st,rfl,a7,a3⟩,hb1⟩;obtain⟨w2,q⟩:=qnm (w1.alloc (.cells (mkA h.m z y u A x) a1N));have hb2:=qba q;obtain⟨N2,R⟩:=qnm w1.heap.size;have f:w2.heap[N2]? =some (.cells (mkA h.m z y u A x) a1N (0,0)):=by rw[q,R];exact Ae w1 _
 have a:Below w0.heap.size w0 w2:=hb1.trans (hb2.mono hb1.size);have hA2:PtAt w2 w0.heap.size h z y u A x st:=PtAt.below ⟨a7,a3⟩ hb1.size hb2;obtain⟨p0,p1,p2⟩:=a0C ((a.block N (ltH r.out.2.2.1)).trans r.out.2.2.1);have H2:=qh (aI a (aI f hA2));have Z:=qh (aa.out w2 (r.out.2.1.trans (a.mono r.out.2.1.size)));have ac:=qh (aI q R);unfold mkA at q;have a2:=qh q;clear a7 a3 hb1 q hb2 R f a hA2 Y;go_upto_region 2 with fail
 rw[<-a2.out,<-ac.out.2];go_wp2_with fail;refine Z.out.mono ?_;rintro e w3 ⟨⟨L,J,K,mt,O,su,rfl,a6,a4⟩,hb3⟩;obtain⟨w4,t⟩:=qnm (w3.alloc (.cells (mkA j.m L J K mt O) a1N));have hb4:=qba t;obtain⟨N4,Q⟩:=qnm w3.heap.size;have p:w4.heap[N4]? =some (.cells (mkA j.m L J K mt O) a1N (0,0)):=by rw[t,Q];exact Ae w3 _
 have l:Below w2.heap.size w2 w4:=hb3.trans (hb4.mono hb3.size);obtain⟨a,f,hA2⟩:=H2.out;have hA4:PtAt w4 w2.heap.size j L J K mt O su:=PtAt.below ⟨a6,a4⟩ hb3.size hb4;have C:PtAt w4 w0.heap.size h z y u A x st:=hA2.below a.size l;obtain⟨q0,q1,q2,q3,q4⟩:=a3j ((l.block N2 (ltH f)).trans f);obtain⟨r0,r1,r2,r3,r4⟩:=a3j p;have H:=fun W=>b3P h.m j.m z u L K 32 A 32 mt y x J O true true W
 simp only[true_and,Bool.true_eq_false,false_or,BR,Bool.or_true] at H;obtain⟨kk,o⟩:∃kk:Int,kk=if j.m.gen<=h.m.gen then 0 else 1:=⟨_,rfl⟩
 rw[<-o] at H;have a9:=qh o;have ab:=qh H;clear H o;have i:=a.trans (l.mono a.size);have H4:=qh (aI i (aI hA4 (aI C (aI ((l.block N2 (ltH f)).trans f) (aI p (aI a.size l.size))))));have a8:=qh (aI t Q);unfold mkA at t;have a1:=qh t;clear a6 a4 hb3 t hb4 Q p l a f hA2 hA4 C i Z H2;go_upto_region 3 with fail
 rw[<-a1.out,<-a8.out.2];go_wp2_with fail;refine(ab.out w4).mono ?_;rintro e E ⟨rfl,hb5⟩;obtain⟨i,hA4,C,f,p,ad,M⟩:=H4.out;have D:=i.trans (hb5.mono i.size);have b:=(D.block (N+1) (ltH r.out.2.2.2.1)).trans r.out.2.2.2.1;obtain⟨q0,q1,q2,q3,q4⟩:=a3j ((hb5.block N2 (ltH f)).trans f);obtain⟨r0,r1,r2,r3,r4⟩:=a3j ((hb5.block N4 (ltH p)).trans p);have z0:E.cell? ⟨N+1,0,none⟩=some (.int .u64 0):=a0a b 0;have z1:E.cell? ⟨N+1,1,none⟩=some (.int .u64 0):=a0a b 1;have z2:E.cell? ⟨N+1,2,none⟩=some (.int .i64 0):=a0a b 2;have z3:E.cell? ⟨N+1,3,none⟩=some (.slice none 0 0):=a0a b 3;have z4:E.cell? ⟨N+1,4,none⟩=some (.slice none 0 0):=a0a b 4;have f0:=a0e b 0;have f1:=a0e b 1;have f2:=a0e b 2;have f3:=a0e b 3;have f4:=a0e b 4;have af:=ltH b;have B:=r.out.2.1.size;have HF:=qh (show PtAt E w.heap.size h z y u A x st/\PtAt E w.heap.size j L J K mt O su/\Below w.heap.size w E/\E.heap[N+1]? =some (.cells #[.int .u64 0,.int .u64 0,.int .i64 0,.slice none 0 0,.slice none 0 0] a1N (0,0)) from
  ⟨(C.below i.size hb5).base HS.out.1 B,(hA4.below M hb5).base HS.out.2 (by omega),r.out.2.1.trans (D.mono B),b⟩)
 clear i hA4 C f p ad M D b hb5 B;have o:=a9.out;by_cases I:j.m.gen<=h.m.gen
 ·rw[Ah I] at o;subst o;go_wp2_with fail;refine Aj (v:=.tuple #[mkV h.m z y u A x,.pointer (some ⟨st,0,none⟩),.bool true]) (by simp[results,Tryz.results129,go_sem,mkV,z0,z1,z2,z3,z4]) rfl ?_;obtain⟨g1,g2,g3,g4⟩:=HF.out;have G:=b64 E (N+1) (.int .u64 (h.m.gen:Int)) (.int .u64 (h.m.seq:Int)) (.int .i64 h.m.seg) (.slice z 32 y) (.slice u A x);have ae:=r.out.2.2.2.2;rw[show a03 h j=h from Ah I];exact⟨⟨z,y,u,A,x,st,rfl,PtAt.set g1 HS.out.1 g4 G⟩,g3.trans (G.below g3.size (fun k _ e=>by omega))⟩
 ·rw[Ag I] at o;subst o;go_wp2_with fail;refine Aj (v:=.tuple #[mkV j.m L J K mt O,.pointer (some ⟨su,0,none⟩),.bool true]) (by simp[results,Tryz.results129,go_sem,mkV,z0,z1,z2,z3,z4]) rfl ?_;obtain⟨g1,g2,g3,g4⟩:=HF.out;have G:=b64 E (N+1) (.int .u64 (j.m.gen:Int)) (.int .u64 (j.m.seq:Int)) (.int .i64 j.m.seg) (.slice L 32 J) (.slice K mt O);have ae:=r.out.2.2.2.2;rw[show a03 h j=j from Ag I];exact⟨⟨L,J,K,mt,O,su,rfl,PtAt.set g2 HS.out.2 g4 G⟩,g3.trans (G.below g3.size (fun k _ e=>by omega))⟩
theorem b39(w:World):Calls Tryz.prog 210 #[.slice none 0 0,.int .i64 0] w fun e w'=>e= .returned (.slice none 0 0)/\w'=w:=by
 go_enter Tryz.func210,Tryz.ntmps210;go_wp2_with fail;go_ret;exact⟨rfl,rfl⟩
theorem a4p(w:World):Calls Tryz.prog 132 #[.slice none 0 0] w fun e w'=>e= .returned (.slice none 0 0)/\Below w.heap.size w w':=by
 have a:=qh (b39 w);go_enter Tryz.func132,Tryz.ntmps132;go_wp2_with fail;go_loopw [3,5,11] (fun n _ i wr=>n= .int .i64 0/\i= .int .i64 0/\wr=w) (fun _ _ _ _=>0);case atStart=>exact ⟨rfl,rfl,rfl⟩
 case round=>
  obtain⟨rfl,rfl,rfl⟩:=hrel;go_wp2_with fail;refine(a.out).mono ?_;rintro e w' ⟨rfl,rfl⟩;go_wp2_with fail;go_loopw [6,8,27] (fun n _ i wr=>n= .slice none 0 0/\i= .int .i64 0/\wr=w') (fun _ _ _ _=>0);case atStart=>exact ⟨rfl,rfl,rfl⟩
  case round=>
   obtain⟨rfl,rfl,rfl⟩:=hrel;go_wp2_with fail;go_ret;exact⟨rfl,Ab _ _⟩
end
end Go.Proofs.YtbemfdcjieakdaaGreatDoor
