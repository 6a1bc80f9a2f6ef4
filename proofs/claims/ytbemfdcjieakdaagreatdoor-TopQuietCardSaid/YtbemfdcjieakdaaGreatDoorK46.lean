/- StAt3; StDo2L. -/
import Derived.Test.YtbemfdcjieakdaaGreatDoorK45
set_option maxRecDepth 100000
set_option maxHeartbeats 8000000
namespace Go.Proofs.YtbemfdcjieakdaaGreatDoor
section
open Go.RowKit Go.ChangeMaps Go.MapKept
variable {w w' : World} {L B C s t sn c : Nat} {fp : Nat → Option Nat} {σ : StM}
def LRep(w:World)(e:Ending)(w':World):Prop:=∃(er:Nat) (c:Int) (g:Option Addr) (b f:Nat) (d:Option Addr) (a h:Nat) (nd:Nd),e= .returned (.agg (rpC (er:Int) c (.slice g b f) (.slice d a h) nd))/\(er≠0->c=0/\b=0/\a=0)/\Below w.heap.size w w'
theorem LRep.rep{e:Ending}(h:LRep w e w')(q:StIn w L B C s t sn fp σ)(p:SGd c σ)(a:L<=B)(b:C<=B)(f:B<=w.heap.size):SRep w L B s c e w':=by
 obtain⟨er,l,k,m,i,g,j,n,nd,rfl,o,d⟩:=h;exact⟨σ,er,l,k,m,i,g,j,n,nd,rfl,o,StAt.of (q.below (Ad b f) d) a,p.mono (As _),Fr.of d f⟩
theorem a68(h:StIn w L B C s t sn fp σ)(gd:SGd c σ)(hc:c<=60000)(a9:L<=B)(U:C<=B)(hB:B<=w.heap.size)(k:Int)(ps ts:ByteArray)(fd H n:Int)(til:Nat)(sp:Int)(da:Option Addr)(dl dc:Nat)(a:Option Addr)(pn pc:Nat)(p:List (List UInt8))(hS:Ss w a pn pc p)(hm:∀s∈p,s.length<=1000000):
  Calls Tryz.prog 90 #[.pointer (some ⟨s,0,none⟩),.agg (a0b k ps ts fd H n til sp da dl dc),.slice a pn pc] w fun e w'=>LRep w e w':=by
 obtain⟨w1,z⟩:=qnm (w.alloc (.cells (a0b k ps ts fd H n til sp da dl dc) TOp));obtain⟨w0,D⟩:=qnm (w1.alloc (.cells rpZ TReply));have hb1:=qba z;have E:=qba D;have O:w1.heap.size=w.heap.size+1:=by rw[z];simp
 have ae:w0.heap.size=w.heap.size+2:=by rw[D];simp[O]
 have hb0:Below w.heap.size w w0:=hb1.trans (E.mono hb1.size);have P:w0.heap[w.heap.size]? =some (.cells (a0b k ps ts fd H n til sp da dl dc) TOp (0,0)):=(E.block _ (by omega)).trans (by rw[z];exact Ae w _);have Q:w0.heap[w1.heap.size]? =some (.cells rpZ TReply (0,0)):=by rw[D];exact Ae w1 _
 have h0:=h.below (Ad U hB) hb0;have a2:=qh (show ∀(W:World) (M:Nat),W.heap[M]? =some (.cells (a0b k ps ts fd H n til sp da dl dc) TOp (0,0))->W.cell? ⟨M,0,none⟩=some (.int .i64 k)/\W.cell? ⟨M,3,none⟩=some (.int .i64 fd)/\W.cell? ⟨M,4,none⟩=some (.int .i64 H)/\W.cell? ⟨M,5,none⟩=some (.int .i64 n)/\W.cell? ⟨M,7,none⟩=some (.int .i64 sp) from
  fun W M K=>⟨a0a K 0,a0a K 3,a0a K 4,a0a K 5,a0a K 7⟩)
 have a3:B<=w0.heap.size:=Ad hB hb0.size;have a6:=qh (b3j h0 gd hc a9 U a3 sp);have a8:=qh (fun W (hb:Below w0.heap.size w0 W) t' T (V:TreeAt W L L t' T) (gT:TGd c T)=>(by
  obtain⟨mb,F,G,V⟩:=V;exact a5R V gT.1 hc a pn pc p ((hS.below hb0).below hb) hm))
 have a7:=qh (aI D z);obtain⟨N,hN⟩:=qnm (w.heap.size+1);rw[O] at Q;obtain⟨M,K⟩:=qnm w.heap.size;rw[<-hN] at Q;rw[<-K] at P;obtain⟨o0,o3,o4,o5,o7⟩:=a2.out w0 M P;have b:=qh (aI hb0 (aI (show w.heap.size<=N by omega) (aI (show N<w0.heap.size by omega) (show M<w0.heap.size by omega))));have HN:=qh (aI hN (aI K O));have y:=qh (aI Q P);clear h h0 hb0 E hb1 Q D z gd hS hm O ae hN K P hB a9 U a3;go_enter Tryz.func90,Tryz.ntmps90;go_upto_region 1 with fail
 have J:=qh a7.out;unfold rpZ a0b at J;unfold a0b;rw[<-J.out.2,<-J.out.1,<-HN.out.1,<-HN.out.2.1];clear J a7;go_wp2_with fail;refine a6.out.mono ?_;rintro e w2 ⟨ad,r⟩;have m:=qh (aI r (aI ((r.block N b.out.2.2.1).trans y.out.1) ((r.block M b.out.2.2.2).trans y.out.2)));clear r a6;rcases ad with⟨l,hw,rfl⟩ | ⟨t',T,rfl,V,gT⟩
 ·have ah:¬(l:Int)=0:=by omega
  clear hw;have X:=qh (a1G l w2);go_wp2_with fail;refine X.out.mono ?_;rintro e w9 ⟨rfl,d⟩;have d:Below w0.heap.size w0 w9:=m.out.1.trans (d.mono m.out.1.size);have o:=qh (aI d (aI ((d.block N b.out.2.2.1).trans y.out.1) ((d.block M b.out.2.2.2).trans y.out.2)));clear d;unfold noC;have g:=o.out.2.1;go_wp2_with (refine Ao rfl TReply (.tmp 6) (.tmp 23) rfl N (noC (l:Int) 0) rfl rfl TReply rpZ g (by kernel_rfl) (by kernel_rfl) (by kernel_rfl) ?_);refine Aj (v:=.agg (noC (l:Int) 0)) (Ap rfl _ _ N TReply _ (0,0) _ rfl (AF _ _ _ _ TReply (0,0) g) Tryz.underlying41 rfl (by kernel_rfl)) rfl ?_;exact⟨l,0,none,0,0,none,0,0,a0z,rfl,fun _=>⟨rfl,rfl,rfl⟩,a0u (b.out.1.trans (o.out.1.mono b.out.1.size)) b.out.2.1⟩
 have Y:=qh (a8.out w2 m.out.1 t' T V gT);have I:=qh (aI V gT);clear V gT a8;have a4:=a4R I.out.2.1 p;generalize a2d T p=q at *;obtain⟨q1,q2⟩:=q;have a5:=qh a4;clear a4;simp only at Y a5;clear o0 o3 o4 o5 o7;go_wp2_with fail;refine Y.out.mono ?_;rintro e w3 ⟨rfl,i⟩;have aa:=qh (I.out.1.below i);have i:Below w0.heap.size w0 w3:=m.out.1.trans (i.mono m.out.1.size);have j:=qh (aI i (aI ((i.block N b.out.2.2.1).trans y.out.1) ((i.block M b.out.2.2.2).trans y.out.2)));clear i Y;obtain⟨o0,o3,o4,o5,o7⟩:=a2.out w3 M j.out.2.2;by_cases hq:q2=0;rotate_left
 ·have ag:¬(q2:Int)=0:=by omega
  clear hq;have X:=qh (a1G q2 w3);go_wp2_with fail;refine X.out.mono ?_;rintro e w9 ⟨rfl,d⟩;have d:Below w0.heap.size w0 w9:=j.out.1.trans (d.mono j.out.1.size);have o:=qh (aI d (aI ((d.block N b.out.2.2.1).trans y.out.1) ((d.block M b.out.2.2.2).trans y.out.2)));clear d;unfold noC;have g:=o.out.2.1;go_wp2_with (refine Ao rfl TReply (.tmp 6) (.tmp 33) rfl N (noC (q2:Int) 0) rfl rfl TReply rpZ g (by kernel_rfl) (by kernel_rfl) (by kernel_rfl) ?_);refine Aj (v:=.agg (noC (q2:Int) 0)) (Ap rfl _ _ N TReply _ (0,0) _ rfl (AF _ _ _ _ TReply (0,0) g) Tryz.underlying41 rfl (by kernel_rfl)) rfl ?_;exact⟨q2,0,none,0,0,none,0,0,a0z,rfl,fun _=>⟨rfl,rfl,rfl⟩,a0u (b.out.1.trans (o.out.1.mono b.out.1.size)) b.out.2.1⟩
 subst hq;obtain⟨x,hx⟩:=a5.out rfl;have hi:=(I.out.2.1.nd q1 x hx).1;obtain⟨mb,F,G,R⟩:=aa.out;by_cases hk:k=12
 ·subst hk;have ab:=qh (a3H R q1 x hx (by omega));clear R hx hi;go_wp2_with fail;refine ab.out.mono ?_;rintro e w4 ⟨rfl,f⟩;have Z:=(Ab w4.heap.size w4).alloc (Aa _) (.cells #[.int .i64 x.n.id,.int .i64 x.n.kind,.int .i64 x.n.links,.int .i64 x.n.size,.int .u64 (x.n.til:Int),.bool x.n.closed] a2H);obtain⟨w5,a0⟩:=qnm (w4.alloc (.cells #[.int .i64 x.n.id,.int .i64 x.n.kind,.int .i64 x.n.links,.int .i64 x.n.size,.int .u64 (x.n.til:Int),.bool x.n.closed] a2H));rw[<-a0] at Z;have f:Below w0.heap.size w0 w4:=j.out.1.trans (f.mono j.out.1.size);have u:Below w0.heap.size w0 w5:=f.trans (Z.mono f.size);have A:=qh (aI u (aI ((u.block N b.out.2.2.1).trans y.out.1) ((u.block M b.out.2.2.2).trans y.out.2)));rw[a0] at A;clear f u Z a0;unfold Nd.cells;have g:=A.out.2.1;go_wp2_with (refine Ao rfl TReply (.tmp 6) (.tmp 44) rfl N (rpC 0 0 (.slice none 0 0) (.slice none 0 0) x.n) rfl rfl TReply rpZ g (by kernel_rfl) (by kernel_rfl) (by kernel_rfl) ?_);refine Aj (v:=.agg (rpC 0 0 (.slice none 0 0) (.slice none 0 0) x.n)) (Ap rfl _ _ N TReply _ (0,0) _ rfl (AF _ _ _ _ TReply (0,0) g) Tryz.underlying41 rfl (by kernel_rfl)) rfl ?_;exact⟨0,0,none,0,0,none,0,0,x.n,rfl,fun e=>absurd rfl e,a0u (b.out.1.trans (A.out.1.mono b.out.1.size)) b.out.2.1⟩
 ·have ai:(k == 12)=false:=by simpa using hk
  have af:=qh (b2Y R I.out.2 hc q1 x hx);clear R hx hi hk;go_wp2_with fail;refine af.out.mono ?_;rintro e w4 ⟨⟨la,ln,lk,l,rfl,a1⟩,f⟩;have f:Below w0.heap.size w0 w4:=j.out.1.trans (f.mono j.out.1.size);have S:=qh (aI f (aI ((f.block N b.out.2.2.1).trans y.out.1) ((f.block M b.out.2.2.2).trans y.out.2)));have ac:=qh a1;clear f a1;have g:=S.out.2.1;go_wp2_with (refine Ao rfl TReply (.tmp 6) (.tmp 55) rfl N (rpC (l:Int) (ln:Int) (.slice none 0 0) (.slice la ln lk) a0z) rfl rfl TReply rpZ g (by kernel_rfl) (by kernel_rfl) (by kernel_rfl) ?_);refine Aj (v:=.agg (rpC (l:Int) (ln:Int) (.slice none 0 0) (.slice la ln lk) a0z)) (Ap rfl _ _ N TReply _ (0,0) _ rfl (AF _ _ _ _ TReply (0,0) g) Tryz.underlying41 rfl (by kernel_rfl)) rfl ?_;exact⟨l,ln,none,0,0,la,ln,lk,a0z,rfl,fun e=>by obtain⟨_,h2,_⟩:=ac.out e;exact⟨by rw[h2];rfl,rfl,h2⟩,a0u (b.out.1.trans (S.out.1.mono b.out.1.size)) b.out.2.1⟩
theorem b1E(h:StIn w L B C s t sn fp σ)(gd:SGd c σ)(a0:C<=B)(hB:B<=w.heap.size)(k:Int)(ps ts:ByteArray)(fd l n:Int)(til:Nat)(X:Int)(da:Option Addr)(dl dc:Nat):
  Calls Tryz.prog 83 #[.pointer (some ⟨s,0,none⟩),.agg (a0b k ps ts fd l n til X da dl dc)] w fun e w'=>LRep w e w':=by
 obtain⟨w1,r⟩:=qnm (w.alloc (.cells (a0b k ps ts fd l n til X da dl dc) TOp));obtain⟨w0,y⟩:=qnm (w1.alloc (.cells rpZ TReply));have hb1:=qba r;have u:=qba y;have z:w1.heap.size=w.heap.size+1:=by rw[r];simp
 have a5:w0.heap.size=w.heap.size+2:=by rw[y];simp[z]
 have hb0:Below w.heap.size w w0:=hb1.trans (u.mono hb1.size);have F:w0.heap[w.heap.size]? =some (.cells (a0b k ps ts fd l n til X da dl dc) TOp (0,0)):=(u.block _ (by omega)).trans (by rw[r];exact Ae w _);have G:w0.heap[w1.heap.size]? =some (.cells rpZ TReply (0,0)):=by rw[y];exact Ae w1 _
 have h0:=h.below (Ad a0 hB) hb0;have a1:=qh (show ∀(W:World) (M:Nat),W.heap[M]? =some (.cells (a0b k ps ts fd l n til X da dl dc) TOp (0,0))->W.cell? ⟨M,0,none⟩=some (.int .i64 k)/\W.cell? ⟨M,3,none⟩=some (.int .i64 fd)/\W.cell? ⟨M,4,none⟩=some (.int .i64 l)/\W.cell? ⟨M,5,none⟩=some (.int .i64 n)/\W.cell? ⟨M,7,none⟩=some (.int .i64 X) from
  fun W M H=>⟨a0a H 0,a0a H 3,a0a H 4,a0a H 5,a0a H 7⟩)
 have T:=qh (aI y r);obtain⟨N,hN⟩:=qnm (w.heap.size+1);rw[z] at G;obtain⟨M,H⟩:=qnm w.heap.size;rw[<-hN] at G;rw[<-H] at F;obtain⟨-,o3,o4,o5,-⟩:=a1.out w0 M F;have a:=qh (aI hb0 (aI (show w.heap.size<=N by omega) (aI (show N<w0.heap.size by omega) (show M<w0.heap.size by omega))));have HN:=qh (aI hN (aI H z));have R:=qh (aI G F);have H0:=qh h0;have a2:=qh gd;clear h h0 hb0 u hb1 G y r z a5 hN H F hB a0 gd;go_enter Tryz.func83,Tryz.ntmps83;go_upto_region 1 with fail
 have D:=qh T.out;unfold rpZ a0b at D;unfold a0b;rw[<-D.out.2,<-D.out.1,<-HN.out.1,<-HN.out.2.1];clear D T;cases E:a6g σ fd with
 | false=>
  have A:=qh (a6D H0.out fd false (a6f σ fd E));clear E;go_wp2_with fail;refine A.out.mono ?_;rintro e w2 ⟨rfl,rfl⟩;have q:=Ab w0.heap.size w0;have O:=qh (aI q (aI ((q.block N a.out.2.2.1).trans R.out.1) ((q.block M a.out.2.2.2).trans R.out.2)));clear q;have a8:=qh (a1G 26 w0);go_wp2_with fail;refine a8.out.mono ?_;rintro e w9 ⟨rfl,f⟩;have f:Below w0.heap.size w0 w9:=O.out.1.trans (f.mono O.out.1.size);have I:=qh (aI f (aI ((f.block N a.out.2.2.1).trans R.out.1) ((f.block M a.out.2.2.2).trans R.out.2)));clear f;unfold noC;have x:=I.out.2.1;go_wp2_with (refine Ao rfl TReply (.tmp 4) (.tmp 18) rfl N (noC (26:Int) 0) rfl rfl TReply rpZ x (by kernel_rfl) (by kernel_rfl) (by kernel_rfl) ?_);refine Aj (v:=.agg (noC (26:Int) 0)) (Ap rfl _ _ N TReply _ (0,0) _ rfl (AF _ _ _ _ TReply (0,0) x) Tryz.underlying41 rfl (by kernel_rfl)) rfl ?_;exact⟨26,0,none,0,0,none,0,0,a0z,rfl,fun _=>⟨rfl,rfl,rfl⟩,a0u (a.out.1.trans (I.out.1.mono a.out.1.size)) a.out.2.1⟩
 | true=>
  obtain⟨j,o,rfl,hj,ho,U⟩:=a7g σ fd E;have A:=qh (a9n H0.out j hj o ho false U);have a6:=(a2.out.fd j o hj ho).2;clear E ho U;go_wp2_with fail;refine A.out.mono ?_;rintro e w2 ⟨⟨g,rfl,_,hO⟩,rfl⟩;obtain⟨ov,Q,Y⟩:=hO;have d2:w0.cell? ⟨g,2,none⟩=some ov:=a0a Q 2;have a4:=qh (ltH Q);obtain⟨m,hm⟩:∃m,o.b.length=m:=⟨_,rfl⟩
  obtain⟨oa,oc,rfl,Z⟩:=Y.bsn hm;have a7:=qh (a8I w0.drew oa m oc o.b (Z.below (Ab _ w0).drew) (by omega) l n);clear Q Y Z hm a6 A;go_upto_region 4 with fail
  refine a0h (fun i=>List.contains (List.range 13) i) (fun w'=>w'.cell? ⟨g,2,none⟩=some (.slice oa m oc)/\w'.cell? ⟨M,4,none⟩=some (.int .i64 l)/\w'.cell? ⟨M,5,none⟩=some (.int .i64 n)) (by kernel_rfl) ?_ (fun hHeld=>?_)
  ·exact⟨d2,o4,o5⟩
  refine qtk 0 20 ?_;refine qtk 1 21 ?_;refine qtk 2 22 ?_;refine qtk 3 23 ?_;refine qtk 4 24 ?_;refine qtk 5 25 ?_;refine qtk 6 26 ?_;refine qtk 7 27 ?_;refine qone 8 fun K hK=>?_
  go_simp;refine a7.out.mono ?_;rintro e w3 ⟨⟨v,P,ys,rfl,V,_,S⟩,d⟩;obtain⟨ln,hln⟩:∃ln,ys.length=ln:=⟨_,rfl⟩
  obtain⟨va,vc,rfl,-⟩:=V.bsn hln;have hHeld:(fun w':World=>w'.cell? ⟨g,2,none⟩=some (.slice oa m oc)/\w'.cell? ⟨M,4,none⟩=some (.int .i64 l)/\w'.cell? ⟨M,5,none⟩=some (.int .i64 n)) w3:=⟨(d.cell (p:=⟨g,2,none⟩) a4.out).trans hHeld.1,(d.cell (p:=⟨M,4,none⟩) a.out.2.2.2).trans hHeld.2.1,(d.cell (p:=⟨M,5,none⟩) a.out.2.2.2).trans hHeld.2.2⟩
  have d:Below w0.heap.size w0 w3:=(Ab _ w0).drew.trans d;go_wp2_with fail;refine hK.out _ _ (fun _=>hHeld) ?_;clear hK K;refine qtk 9 19 ?_;refine qtk 10 29 ?_;refine qtk 11 30 ?_;refine qtk 12 7 ?_;refine qfr 13 8 ?_;refine qdon ?_;clear hHeld;have a3:=qh S;have J:=qh (aI d (aI ((d.block N a.out.2.2.1).trans R.out.1) ((d.block M a.out.2.2.2).trans R.out.2)));clear d V S hln d2 o3 o4 o5;have x:=J.out.2.1;go_wp2_with (refine Ao rfl TReply (.tmp 4) (.tmp 35) rfl N (rpC (P:Int) (ln:Int) (.slice va ln vc) (.slice none 0 0) a0z) rfl rfl TReply rpZ x (by kernel_rfl) (by kernel_rfl) (by kernel_rfl) ?_);refine Aj (v:=.agg (rpC (P:Int) (ln:Int) (.slice va ln vc) (.slice none 0 0) a0z)) (Ap rfl _ _ N TReply _ (0,0) _ rfl (AF _ _ _ _ TReply (0,0) x) Tryz.underlying41 rfl (by kernel_rfl)) rfl ?_;exact⟨P,ln,va,ln,vc,none,0,0,a0z,rfl,fun e=>by have h2:=a3.out e;injection h2 with _ h2;exact⟨by rw[h2];rfl,h2,rfl⟩,a0u (a.out.1.trans (J.out.1.mono a.out.1.size)) a.out.2.1⟩
theorem b1F(h:StIn w L B C s t sn fp σ)(gd:SGd c σ)(hc:c<=60000)(a9:L<=B)(R:C<=B)(hB:B<=w.heap.size)(a:Option Addr)(pn pc:Nat)(p:List (List UInt8))(hS:Ss w a pn pc p)(hm:∀s∈p,s.length<=1000000)(id:Int):
  Calls Tryz.prog 82 #[.pointer (some ⟨s,0,none⟩),.slice a pn pc,.int .i64 id] w fun e w'=>SRep w L B s c e w':=by
 obtain⟨w0,X⟩:=qnm (w.alloc (.cells rpZ TReply));have hb0:=qba X;have a0:w0.heap[w.heap.size]? =some (.cells rpZ TReply (0,0)):=by rw[X];exact Ae w _
 have h0:=h.below (Ad R hB) hb0;have a5:B<=w0.heap.size:=Ad hB hb0.size;have ar:=qh (b3j h0 gd hc a9 R a5 id);have ay:=qh (fun W (hb:Below w0.heap.size w0 W) t' T (hT:TreeAt W L L t' T) (gT:TGd c T)=>(by
  obtain⟨mb,F,G,hT⟩:=hT;exact a5R hT gT.1 hc a pn pc p ((hS.below hb0).below hb) hm))
 have g:=qh (aI h (aI gd (aI a9 (aI R hB))));obtain⟨N,hN⟩:=qnm w.heap.size;rw[<-hN] at a0;have d:=qh (aI hb0 (aI (show w.heap.size<=N by omega) (ltH a0)));have U:=qh a0;have H0:=qh (aI h0 a5);have ax:=qh X;have HN:=qh hN;clear h h0 hb0 a0 X gd hS hm hN hB a9 R a5;go_enter Tryz.func82,Tryz.ntmps82;go_upto_region 1 with fail
 have a2:=qh ax.out;unfold rpZ at a2;rw[<-a2.out,<-HN.out];clear a2 ax;go_wp2_with fail;refine ar.out.mono ?_;rintro e w2 ⟨aD,I⟩;have i:=qh (aI I ((I.block N d.out.2.2).trans U.out));clear I ar;rcases aD with⟨u,hw,rfl⟩ | ⟨t',T,rfl,hT,gT⟩
 ·have aG:¬(u:Int)=0:=by omega
  clear hw;have o:=qh (a1G u w2);go_wp2_with fail;refine o.out.mono ?_;rintro e w9 ⟨rfl,b⟩;have b:Below w0.heap.size w0 w9:=i.out.1.trans (b.mono i.out.1.size);have f:=qh (aI b ((b.block N d.out.2.2).trans U.out));clear b;unfold noC;have k:=f.out.2;go_wp2_with (refine Ao rfl TReply (.tmp 6) (.tmp 24) rfl N (noC (u:Int) 0) rfl rfl TReply rpZ k (by kernel_rfl) (by kernel_rfl) (by kernel_rfl) ?_);refine Aj (v:=.agg (noC (u:Int) 0)) (Ap rfl _ _ N TReply _ (0,0) _ rfl (AF _ _ _ _ TReply (0,0) k) Tryz.underlying41 rfl (by kernel_rfl)) rfl ?_;exact LRep.rep (w':=w9.setRow N (noC (u:Int) 0)) ⟨u,0,none,0,0,none,0,0,a0z,rfl,fun _=>⟨rfl,rfl,rfl⟩,a0u (d.out.1.trans (f.out.1.mono d.out.1.size)) d.out.2.1⟩ g.out.1 g.out.2.1 g.out.2.2.1 g.out.2.2.2.1 g.out.2.2.2.2
 have ag:=qh (b1h (H0.out.1.below (Ad g.out.2.2.2.1 H0.out.2) i.out.1));have M:=qh (fun W (hb:Below w2.heap.size w2 W)=>ay.out W (i.out.1.trans (hb.mono i.out.1.size)) t' T (hT.below hb) gT);have H:=qh (aI hT gT);clear hT gT ay;have aw:a60 σ= -1∨∃j:Nat,a60 σ=(j:Int)/\j<8:=by
  rcases a8h σ.fds 8 0 with h | ⟨j,h1,_,h2,_⟩
  ·exact .inl h
  ·exact .inr ⟨j,h1,by omega⟩
 generalize a60 σ=q at *;go_wp2_with fail;refine ag.out.mono ?_;rintro e w3 ⟨rfl,rfl⟩;clear ag;rcases aw with rfl | ⟨j,rfl,hj⟩
 ·
  have o:=qh (a1G 25 w2);go_wp2_with fail;refine o.out.mono ?_;rintro e w9 ⟨rfl,b⟩;have b:Below w0.heap.size w0 w9:=i.out.1.trans (b.mono i.out.1.size);have f:=qh (aI b ((b.block N d.out.2.2).trans U.out));clear b;unfold noC;have k:=f.out.2;go_wp2_with (refine Ao rfl TReply (.tmp 6) (.tmp 29) rfl N (noC (25:Int) 0) rfl rfl TReply rpZ k (by kernel_rfl) (by kernel_rfl) (by kernel_rfl) ?_);refine Aj (v:=.agg (noC (25:Int) 0)) (Ap rfl _ _ N TReply _ (0,0) _ rfl (AF _ _ _ _ TReply (0,0) k) Tryz.underlying41 rfl (by kernel_rfl)) rfl ?_;exact LRep.rep (w':=w9.setRow N (noC (25:Int) 0)) ⟨25,0,none,0,0,none,0,0,a0z,rfl,fun _=>⟨rfl,rfl,rfl⟩,a0u (d.out.1.trans (f.out.1.mono d.out.1.size)) d.out.2.1⟩ g.out.1 g.out.2.1 g.out.2.2.1 g.out.2.2.2.1 g.out.2.2.2.2
 have aF:¬(j:Int)<0:=by omega
 have M:=qh (M.out w2 (Ab _ _));have aj:=a4R H.out.2.1 p;generalize a2d T p=q at *;obtain⟨q1,q2⟩:=q;have aq:=qh aj;clear aj;simp only at M aq;go_wp2_with fail;refine M.out.mono ?_;rintro e w3 ⟨rfl,m⟩;have aA:=qh (H.out.1.below m);have m:Below w0.heap.size w0 w3:=i.out.1.trans (m.mono i.out.1.size);have D:=qh (aI m ((m.block N d.out.2.2).trans U.out));clear m M;by_cases hq:q2=0;rotate_left
 ·have aE:¬(q2:Int)=0:=by omega
  clear hq;have o:=qh (a1G q2 w3);go_wp2_with fail;refine o.out.mono ?_;rintro e w9 ⟨rfl,b⟩;have b:Below w0.heap.size w0 w9:=D.out.1.trans (b.mono D.out.1.size);have f:=qh (aI b ((b.block N d.out.2.2).trans U.out));clear b;unfold noC;have k:=f.out.2;go_wp2_with (refine Ao rfl TReply (.tmp 6) (.tmp 39) rfl N (noC (q2:Int) 0) rfl rfl TReply rpZ k (by kernel_rfl) (by kernel_rfl) (by kernel_rfl) ?_);refine Aj (v:=.agg (noC (q2:Int) 0)) (Ap rfl _ _ N TReply _ (0,0) _ rfl (AF _ _ _ _ TReply (0,0) k) Tryz.underlying41 rfl (by kernel_rfl)) rfl ?_;exact LRep.rep (w':=w9.setRow N (noC (q2:Int) 0)) ⟨q2,0,none,0,0,none,0,0,a0z,rfl,fun _=>⟨rfl,rfl,rfl⟩,a0u (d.out.1.trans (f.out.1.mono d.out.1.size)) d.out.2.1⟩ g.out.1 g.out.2.1 g.out.2.2.1 g.out.2.2.2.1 g.out.2.2.2.2
 subst hq;obtain⟨x,hx⟩:=aq.out rfl;have hi:=(H.out.2.1.nd q1 x hx).1;have ac:=H.out.2.1.kind hx;obtain⟨mb,F,G,ab⟩:=aA.out;have Q:=qh (a3H ab q1 x hx (by omega));have a8:=qh (aI ab (aI hx hi));clear ab hx hi;obtain⟨nd,a6⟩:=qnm x.n;rw[<-a6] at Q ac;have aC:=qh a6;clear a6;unfold Nd.cells at Q;go_wp2_with fail;refine Q.out.mono ?_;rintro e w4 ⟨rfl,K⟩;obtain⟨w5,a1⟩:=qnm (w4.alloc (.cells #[.int .i64 nd.id,.int .i64 nd.kind,.int .i64 nd.links,.int .i64 nd.size,.int .u64 (nd.til:Int),.bool nd.closed] a2H));obtain⟨Z,hZ⟩:=qnm w4.heap.size;have hb5:=qba a1;have V:w5.heap[Z]? =some (.cells #[.int .i64 nd.id,.int .i64 nd.kind,.int .i64 nd.links,.int .i64 nd.size,.int .u64 (nd.til:Int),.bool nd.closed] a2H (0,0)):=by rw[a1,hZ];exact Ae _ _
 have n1:w5.cell? ⟨Z,1,none⟩=some (.int .i64 nd.kind):=a0a V 1;have n3:w5.cell? ⟨Z,3,none⟩=some (.int .i64 nd.size):=a0a V 3;have n5:w5.cell? ⟨Z,5,none⟩=some (.bool nd.closed):=a0a V 5;have O:=K.trans (hb5.mono K.size);have az:=qh O;have J:Below w0.heap.size w0 w5:=D.out.1.trans (O.mono D.out.1.size);have l:=qh (aI J ((J.block N d.out.2.2).trans U.out));have aa:=qh (aI a1 hZ);clear K hb5 V O J Q a1 hZ;go_upto_block 0 with fail
 rw[<-aa.out.1,<-aa.out.2];clear aa;obtain⟨kd,a4⟩:=qnm nd.kind;obtain⟨cl,ae⟩:=qnm nd.closed;obtain⟨sz,af⟩:=qnm nd.size;rw[<-a4] at n1 ac;rw[<-ae] at n5;rw[<-af] at n3;have aB:=qh a4;clear a4 ae af;rcases ac with rfl | rfl
 rotate_left
 ·
  have o:=qh (a1G 22 w5);go_wp2_with fail;refine o.out.mono ?_;rintro e w9 ⟨rfl,b⟩;have b:Below w0.heap.size w0 w9:=l.out.1.trans (b.mono l.out.1.size);have f:=qh (aI b ((b.block N d.out.2.2).trans U.out));clear b;unfold noC;have k:=f.out.2;go_wp2_with (refine Ao rfl TReply (.tmp 6) (.tmp 50) rfl N (noC (22:Int) 0) rfl rfl TReply rpZ k (by kernel_rfl) (by kernel_rfl) (by kernel_rfl) ?_);refine Aj (v:=.agg (noC (22:Int) 0)) (Ap rfl _ _ N TReply _ (0,0) _ rfl (AF _ _ _ _ TReply (0,0) k) Tryz.underlying41 rfl (by kernel_rfl)) rfl ?_;exact LRep.rep (w':=w9.setRow N (noC (22:Int) 0)) ⟨22,0,none,0,0,none,0,0,a0z,rfl,fun _=>⟨rfl,rfl,rfl⟩,a0u (d.out.1.trans (f.out.1.mono d.out.1.size)) d.out.2.1⟩ g.out.1 g.out.2.1 g.out.2.2.1 g.out.2.2.2.1 g.out.2.2.2.2
 cases cl with
 | false=>
  have o:=qh (a1G 25 w5);go_wp2_with fail;refine o.out.mono ?_;rintro e w9 ⟨rfl,b⟩;have b:Below w0.heap.size w0 w9:=l.out.1.trans (b.mono l.out.1.size);have f:=qh (aI b ((b.block N d.out.2.2).trans U.out));clear b;unfold noC;have k:=f.out.2;go_wp2_with (refine Ao rfl TReply (.tmp 6) (.tmp 55) rfl N (noC (25:Int) 0) rfl rfl TReply rpZ k (by kernel_rfl) (by kernel_rfl) (by kernel_rfl) ?_);refine Aj (v:=.agg (noC (25:Int) 0)) (Ap rfl _ _ N TReply _ (0,0) _ rfl (AF _ _ _ _ TReply (0,0) k) Tryz.underlying41 rfl (by kernel_rfl)) rfl ?_;exact LRep.rep (w':=w9.setRow N (noC (25:Int) 0)) ⟨25,0,none,0,0,none,0,0,a0z,rfl,fun _=>⟨rfl,rfl,rfl⟩,a0u (d.out.1.trans (f.out.1.mono d.out.1.size)) d.out.2.1⟩ g.out.1 g.out.2.1 g.out.2.2.1 g.out.2.2.2.1 g.out.2.2.2.2
 | true=>
 have ak:=qh (b1C (a8.out.1.below az.out) H.out.2 q1 x a8.out.2.1 (by rw[<-aC.out];exact aB.out.symm) (by have:=a8.out.2.2;omega) sz);go_wp2_with fail;refine ak.out.mono ?_;rintro e w6 ⟨⟨v,u,ys,rfl,a3,am,-⟩,hb6⟩;obtain⟨ln,hln⟩:∃ln,ys.length=ln:=⟨_,rfl⟩
 obtain⟨va,vc,rfl,-⟩:=a3.bsn hln;obtain⟨w7,E⟩:=qnm (w6.alloc (.cells #[.bool false,.int .i64 0,.slice va ln vc] a8A));obtain⟨Y,hY⟩:=qnm w6.heap.size;have hb7:=qba E;have ah:w7.heap[Y]? =some (.cells #[.bool false,.int .i64 0,.slice va ln vc] a8A (0,0)):=by rw[E,hY];exact Ae _ _
 have z:Below w0.heap.size w0 w6:=l.out.1.trans (hb6.mono l.out.1.size);have P:Below w0.heap.size w0 w7:=z.trans (hb7.mono z.size);have A:=qh (aI P ((P.block N d.out.2.2).trans U.out));have r:=H0.out.1.below (Ad g.out.2.2.2.1 H0.out.2) A.out.1;have ai:L<=Y:=by have:=H0.out.2;have:=g.out.2.2.1;have:=z.size;omega
 have ao:OpnAt w7 L Y ⟨false,0,ys⟩:=⟨_,ah,(a3.below hb7).base (by have:=H0.out.2;have:=g.out.2.2.1;have:=l.out.1.size;omega)⟩
 have ap:=r.setFd g.out.2.2.1 g.out.2.2.2.1 j hj (some Y) (some ⟨false,0,ys⟩) ⟨_,rfl,ai,ao⟩;have c3:=r.fdcell j hj;have f3:=a0e r.cel (3+j);have an:N≠s:=fun e=>by
  have:=r.cel;rw[<-e,A.out.2] at this;injection this with this;injection this with _ this;exact absurd this (by decide)
 have a7:(w7.setCell ⟨s,3+j,none⟩ (.pointer (some ⟨Y,0,none⟩))).heap[N]? =some (.cells rpZ TReply (0,0)):=(A5 _ _ _ _ an).trans A.out.2;have al:Fr B w (w7.setCell ⟨s,3+j,none⟩ (.pointer (some ⟨Y,0,none⟩))):=
  (Fr.of (d.out.1.trans (A.out.1.mono d.out.1.size)) g.out.2.2.2.2).setCell r.sge r.cel _
 have ad:SGd (c+1) ⟨σ.T,σ.S,σ.now,a7Q σ.fds j (some ⟨false,0,ys⟩)⟩:=by
  have hm:=g.out.2.1.mono (As c);exact⟨hm.tr,a7P hm.fd (fun y e=>by injection e with e;rw[<-e];exact⟨AH _,am⟩),hm.sn,hm.now⟩
 have HF:=qh (aI ap (aI al ad));have av:=qh (aI E hY);have g1:(0:Int)<=(j:Int):=by omega
 have g2:(j:Int)<8:=by omega
 clear r ao ap an al ad a3 am hb6 hb7 z P ah ai E hY n1 n3 n5 hln ak;unfold fdV at c3;obtain⟨E,hY⟩:=av.out;subst E;subst hY;clear av;go_wp2_with (refine Ao rfl TReply (.tmp 6) (.tmp 73) rfl N (noC 0 (j:Int)) rfl rfl TReply rpZ a7 (by kernel_rfl) (by kernel_rfl) (by kernel_rfl) ?_);refine Aj (v:=.agg (noC 0 (j:Int))) (Ap rfl _ _ N TReply _ (0,0) _ rfl (AF _ _ _ _ TReply (0,0) a7) Tryz.underlying41 rfl (by kernel_rfl)) rfl ?_;have au:B<=N:=by have:=g.out.2.2.2.2;have:=d.out.2.1;omega
 exact⟨_,0,j,none,0,0,none,0,0,a0z,rfl,fun e=>absurd rfl e,StAt.of (HF.out.1.setReply g.out.2.2.1 g.out.2.2.2.1 au a7) g.out.2.2.1,HF.out.2.2,HF.out.2.1.setRow au d.out.2.1 _⟩
end
section
open Go.RowKit Go.ChangeMaps Go.MapKept
variable {w w' : World} {L B C s t sn c : Nat} {fp : Nat → Option Nat} {σ : StM}
theorem a0r{x:List UInt8}{q:List (List UInt8)}(h:a0g x=(q,0)):q.length<=8/\∀s∈q,s.length<=1000000:=by
 have a:q=[]∨fineP q=0:=by
  unfold a0g at h;split at h
  ·cases h
  ·split at h
   ·split at h
    ·injection h with h _;exact .inl h.symm
    ·split at h
     ·rename_i b;injection h with _ c;exact absurd c b
     ·rename_i b;injection h with c _
      rw[<-c];exact .inr (by omega)
   ·cases h
 rcases a with rfl | a
 ·exact⟨AH _,fun s d=>by cases d⟩
 ·unfold fineP at a;split at a
  ·cases a
  ·rename_i b;split at a
   ·cases a
   ·rename_i c;refine⟨by omega,fun s d=>?_⟩;have h3:goodN s=true:=by
     cases e:goodN s with
     | true=>rfl
     | false=>exact absurd (List.any_eq_true.2 ⟨s,d,by simp[e]⟩) b
    unfold goodN at h3;simp only[Ca,decide_eq_true_eq] at h3;have:=h3.2.1.1.2;omega
theorem StAt.chg2{w w':World}{L s:Nat}{σ:StM}(h:StAt w L L w.heap.size s σ)(a:Below w.heap.size w w'):StAt w' L L w'.heap.size s σ:=
 h.alien (Chg.of_below a (fun _=>False)) (fun _ _ e=>e.elim)
theorem StAt.setReply{w:World}{L s N:Nat}{σ:StM}{X:Array Value}(h:StAt w L L w.heap.size s σ)(c:w.heap[N]? =some (.cells X TReply (0,0)))(C':Array Value):StAt (w.setRow N C') L L (w.setRow N C').heap.size s σ:=
 h.alien (S:=fun k=>k=N) ⟨rfl,rfl,rfl,by simp[World.setRow],fun k _ hk=>BY w N k C' hk⟩ (fun k _ e=>.inr ⟨fun C g i a=>(by rw[e,c] at a;injection a with a;injection a with _ a;rw[<-a];decide),fun d f b=>by rw[e,c] at b;injection b with b;cases b⟩)
theorem a9q{b:World}{N:Nat}{a:StM}{er:Nat}{f:Int}{i:Option Addr}{e h:Nat}{g:Option Addr}{d k:Nat}{nd:Nd}(p:StAt b L L b.heap.size s a)(q:SGd (c+1) a)(o:Fr B w b)(n:b.heap[N]? =some (.cells rpZ TReply (0,0)))(j:B<=N)(m:w.heap.size<=N)(l:er≠0->f=0/\e=0/\d=0):
  SRep w L B s c (.returned (.agg (rpC (er:Int) f (.slice i e h) (.slice g d k) nd))) (b.setRow N (rpC (er:Int) f (.slice i e h) (.slice g d k) nd)):=
 ⟨a,er,f,i,e,h,g,d,k,nd,rfl,l,p.setReply n _,q,o.setRow j m _⟩
theorem TPost.serr{mb:Nat}{e:Ending}(j:TPost w L B t mb c e w')(h:StIn w L B C s t sn fp σ)(m:SGd c σ)(f:L<=B)(d:C<=B)(i:B<=w.heap.size):SErr w L B s c e w':=by
 obtain⟨a,rfl,⟨o,p,k,n,l⟩,g⟩:=j;have b:=m.mono (As c);exact⟨a,⟨k,σ.S,σ.now,σ.fds⟩,rfl,StAt.of (h.setTree d i g ⟨_,_,_,n⟩) f,⟨l,b.fd,b.sn,b.now⟩,Fr.tchg g i⟩
def nextN(b a:Nat):Nat:=if a<=MTn then max b a else b
theorem b5U(now tick:Nat)(w:World):Calls Tryz.prog 94 #[.int .u64 (now:Int),.int .u64 (tick:Int)] w fun e w'=>e= .returned (.int .u64 (nextN now tick:Int))/\w=w':=by
 have b:=qh (a6e tick w);by_cases h:tick<=MTn
 ·rw[AB h] at b;have a:nextN now tick=max now tick:=by unfold nextN;rw[Ah h]
  rw[a];clear a h;go_enter Tryz.func94,Tryz.ntmps94;go_wp2_with fail;refine b.out.mono ?_;rintro e c ⟨rfl,rfl⟩;go_wp2_with fail;go_ret;exact⟨by simp;omega,rfl⟩
 ·rw[Aq h] at b;have a:nextN now tick=now:=by unfold nextN;rw[Ag h]
  rw[a];clear a h;go_enter Tryz.func94,Tryz.ntmps94;go_wp2_with fail;refine b.out.mono ?_;rintro e c ⟨rfl,rfl⟩;go_wp2_with fail;go_ret;exact⟨rfl,rfl⟩
theorem StIn.setNow(h:StIn w L B C s t sn fp σ)(x:L<=B)(b:Nat):StAt (w.setCell ⟨s,2,none⟩ (.int .u64 (b:Int))) L L (w.setCell ⟨s,2,none⟩ (.int .u64 (b:Int))).heap.size s ⟨σ.T,σ.S,b,σ.fds⟩:=by
 obtain⟨w1,d⟩:=qnm (w.setCell ⟨s,2,none⟩ (.int .u64 (b:Int)));have l:w1.heap[s]? =some (.cells (stC t sn b fp) TState (0,0)):=by rw[d,a0Q h.cel];rfl
 have c:Chg (fun k=>k=s) w w1:=by rw[d];exact a0x w s 2 _
 have m:=h.frozen x;have f:∀k C r D,w.heap[k]? =some (.cells C r D)->r≠TState->k≠s:=fun k C r D hk A e=>by
  rw[e,h.cel] at hk;injection hk with hk;injection hk with _ hk;exact A hk.symm
 have a:∀k,k<w.heap.size->k=s->k<L∨a5o w k:=fun k _ e=>.inr ⟨fun C r D j=>(by rw[e,h.cel] at j;injection j with j;injection j with _ j;rw[<-j];decide),fun es cl p=>by rw[e,h.cel] at p;injection p with p;cases p⟩
 rw[<-d];refine⟨t,sn,fp,m.sge,l,?_,?_,m.no,fun i o M Z=>?_⟩
 ·obtain⟨mb,F,G,y⟩:=m.tree;exact⟨mb,F,G,y.alien (Aa _) c a⟩
 ·obtain⟨O,K,R,J,n,z,h3,q,W⟩:=m.snaps;refine⟨O,K,R,J,(c.block sn (ltH n) (f _ _ _ _ n (by decide))).trans n,z.alien c a,h3,⟨q.1,q.2.imp (fun h=>h) (fun⟨g,cap,u,Q,U,E,V⟩=>⟨g,cap,u,Q,U,(c.block g (ltH E) (f _ _ _ _ E (by decide))).trans E,V⟩)⟩,fun i Y I=>?_⟩;obtain⟨H,w0,P,X,N⟩:=W i Y I;obtain⟨mb,F,G,y⟩:=N.below (w':=w) (by rw[P];exact X);exact⟨H.alien c a,w1,rfl,Ab _ _,mb,F,G,y.alien (Aa _) c a⟩
 ·obtain⟨g,n,z,v,h3,q⟩:=m.fd i o M Z;exact⟨g,n,z,v,(c.block g (ltH h3) (f _ _ _ _ h3 (by decide))).trans h3,q.alien c a⟩
end
end Go.Proofs.YtbemfdcjieakdaaGreatDoor
