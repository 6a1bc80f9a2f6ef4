/- TreeUnl; TreeUnl2; Genesis; Chunk; Glue. -/
import Derived.LoopIn
import Derived.LoopNIn
import Derived.OwnWalkIn
import Derived.RangeFuncBound
import Derived.RangeFuncBox
import Derived.RangeFuncCalls
import Derived.RangeFuncLeaves
import Derived.RangeFuncNested
import Derived.Shelf.Abstract
import Derived.Shelf.RegionOpen
import Derived.TacticsInMore
import Derived.Test.YtbemfdcjieakdaaGreatDoorK20
set_option maxRecDepth 100000
set_option maxHeartbeats 8000000
namespace Go.Proofs.YtbemfdcjieakdaaGreatDoor
section
open Go.RowKit Go.ChangeMaps Go.MapKept
variable {w : World} {L B t mb c : Nat} {F G : Nat → Nat} {T : Tr}
def TPost(w:World)(L B t mb c:Nat)(e:Ending)(w':World):Prop:=∃a:Nat,e= .returned (.int .i64 (a:Int))/\(∃d f b,TreeIn w' L B t mb d f b/\TGd (c+1) b)/\TChg B w w'
theorem TPost.same{w':World}(h:TreeIn w' L B t mb F G T)(d:TGd c T)(b:TChg B w w')(a:Nat):TPost w L B t mb c (.returned (.int .i64 (a:Int))) w':=⟨a,rfl,⟨F,G,T,h,d.mono (As _)⟩,b⟩
theorem a8p{i:Nat}{x:It}{s:List UInt8}(h:TreeIn w L B t mb F G T)(c:getK i T=some x)(hk:x.n.kind=2)(k:s.length<=1000000):
  ∃w',(∀f,(Builtin.delete_ #[231,a3c] f #[.map (some (G i)),.string (a0c s)]).run Tryz.prog w= .ok (.tuple #[]) w')/\
   TreeIn w' L B t mb F G (a01 T i ⟨x.n,x.b,a1K s x.names⟩)/\TChg B w w':=by
 obtain⟨_,_,g⟩:=h.dir c hk;obtain⟨w',j,a,d⟩:=g.del a0L a3f a1y (b8s s (by unfold maxLen;omega)) 0;rw[a3X] at a;obtain⟨_,v,m,_,_,e,_⟩:=h.item i x c;exact⟨w',fun _=>j,h.setNames c hk (a0E d) a,TChg.map d (e hk).2.1⟩
theorem TreeIn.links(h:TreeIn w L B t mb F G T){i:Nat}{x:It}(f:getK i T=some x)(l:Int):
  TreeIn (w.setCell ⟨F i,2,none⟩ (.int .i64 l)) L B t mb F G (a01 T i ⟨a2a x.n l,x.b,x.names⟩)/\TChg B w (w.setCell ⟨F i,2,none⟩ (.int .i64 l)):=by
 obtain⟨j,v,m,c,h3,_⟩:=h.item i x f;have d:=a0x w (F i) 2 (.int .i64 l);have g:=a0Q (i:=2) c (.int .i64 l);refine⟨h.setItem (x':=⟨a2a x.n l,x.b,x.names⟩) f d c g ?_ rfl rfl,TChg.item d c j⟩;exact h3.chg0 d (fun k _ e C a=>by subst e;rw[c] at a;injection a with a;injection a with _ a;exact absurd a (by decide))
end
section
open Go.RowKit Go.ChangeMaps Go.MapKept
variable {w : World} {L B t mb c : Nat} {F G : Nat → Nat} {T : Tr}
theorem b3T{i:Nat}{x:It}(h:TreeIn w L B t mb F G T)(c:getK i T=some x)(hk:x.n.kind=2)(n:Nat)(b:x.names.length=n):∀a,(Builtin.len_ #[231] a #[.map (some (G i))]).run Tryz.prog w= .ok (.int .i64 (n:Int)) w:=fun a=>by
 obtain⟨_,_,d⟩:=h.dir c hk;have:=d.len a0L a1y a;rw[a1p,b] at this;exact this
theorem a66(g:Nat)(a m:Option Addr)(n cap o b:Nat)(ls c:List (List UInt8))(l:w.heap[g]? =some (.cells #[.slice a n cap,.slice m o b] 37 (0,0)))(v:Ss w a n cap ls)(u:∀s∈ls,s.length<=1000000)(k:Ss w m o b c)(j:∀s∈c,s.length<=1000000):
  Calls Tryz.prog 152 #[.slice (some ⟨g,0,none⟩) 2 2] w fun e w'=>(∃f:Nat,e= .returned (.int .i64 (f:Int))/\(f=0->fineP ls=0/\fineP c=0))/\Below w.heap.size w w':=by
 have B:=a0a l 0;have g1:=a0a l 1;have y:=qh (a4J a n cap ls w v u);have t:=qh (fun w' (d:Below w.heap.size w w')=>a4J m o b c w' (k.below d) j);have A:=qh (fun w' (d:Below w.heap.size w w')=>(d.cell (p:=⟨g,1,none⟩) (Array.getElem?_eq_some_iff.1 l).1).trans g1);generalize fineP ls=f at *;generalize fineP c=q at *;clear v u k j l g1;go_enter Tryz.func152,Tryz.ntmps152;go_wp2_with fail;refine BQ 3 ?_;rw[A0];go_wp2_with fail;refine y.out.mono ?_;rintro e x ⟨rfl,d⟩;by_cases i:f=0;rotate_left
 ·have z:¬(f:Int)=0:=by omega
  go_wp2_with fail;go_ret;exact⟨⟨f,rfl,fun h=>absurd h i⟩,d⟩
 subst i;have g1:=A.out x d;have r:=qh (t.out x d);go_wp2_with fail;rw[A0];go_wp2_with fail;refine r.out.mono ?_;rintro e w2 ⟨rfl,hb2⟩;have HB:=qh (d.trans (hb2.mono d.size));clear d hb2;by_cases i:q=0
 ·subst i;go_wp2_with fail;rw[A0];go_wp2_with fail;go_ret;exact⟨⟨0,rfl⟩,HB.out⟩
 ·have z:¬(q:Int)=0:=by omega
  go_wp2_with fail;go_ret;exact⟨⟨q,rfl,fun h=>absurd h i⟩,HB.out⟩
theorem a9L(h:TreeIn w L B t mb F G T)(O:TGd c T)(hc:c<=60000)(a:Option Addr)(n cap:Nat)(p:List (List UInt8))(hS:Ss w a n cap p)(hm:∀s∈p,s.length<=1000000)(hn:n<=100000):
  Calls Tryz.prog 165 #[.pointer (some ⟨t,0,none⟩),.slice a n cap] w fun e w'=>TPost w L B t mb c e w':=by
 have HF:=qh (show Calls Tryz.prog 152 #[.slice (some ⟨w.heap.size,0,none⟩) 1 1] (w.alloc (.cells #[.slice a n cap] 37)) fun e w'=>(∃f:Nat,e= .returned (.int .i64 (f:Int))/\(f=0->fineP p=0))/\Below (w.alloc (.cells #[.slice a n cap] 37)).heap.size (w.alloc (.cells #[.slice a n cap] 37)) w' from
  (a3Z (w:=w.alloc (.cells #[.slice a n cap] 37)) w.heap.size a n cap p (by rw[a07];rfl) (hS.alloc _) hm).mono (fun e w' h=>⟨⟨fineP p,h.1,id⟩,h.2⟩))
 have HP:=qh (fun w' (o:Below w.heap.size w w')=>a2h (h.below o) O.1 hc a n cap p (hS.below o) hm hn);have HL:=qh (fun w' (o:Below w.heap.size w w')=>a39 (h.below o) O.1 hc a n cap p (hS.below o) hm);have HT:=qh (fun w' (o:Below w.heap.size w w')=>h.below o);have hE:=qh ((Ext.refl w).alloc (.cells #[.slice a n cap] 37));have X:=a3y O.1 p 0 (by obtain⟨x,j,_⟩:=O.1.root;exact⟨x,j⟩);have U:=fun k=>a2Y (T:=T) (p:=p) (k:=k)
 have l:=qh (aI O (aI X U));have a8:=qh hm;clear h O hS hm X U;go_enter Tryz.func165,Tryz.ntmps165;go_wp2_with fail;refine HF.out.mono ?_;rintro e w1 ⟨⟨f,rfl,a3⟩,o⟩;have d:=qh (hE.out.step o);by_cases h0:f=0;rotate_left
 ·have h1:¬(f:Int)=0:=by omega
  go_wp2_with fail;go_ret;exact TPost.same (HT.out _ d.out.1) l.out.1 (TChg.of_below d.out.1) f
 subst h0;have ad:=qh (a3 rfl);have a0:=qh (HL.out w1 d.out.1);obtain⟨⟨r,q2⟩,hq⟩:∃q,q=a0I T 0 p:=⟨_,rfl⟩
 rw[<-hq] at a0;have HQ:=qh hq.symm;clear o hq HF HL hE a3;go_wp2_with fail;refine a0.out.mono ?_;rintro e w2 ⟨rfl,rfl⟩;have i:=qh (HT.out _ d.out.1);by_cases h2:q2=0;rotate_left
 ·have h3:¬(q2:Int)=0:=by omega
  go_wp2_with fail;go_ret;exact TPost.same i.out l.out.1 (TChg.of_below d.out.1) q2
 subst h2;obtain⟨x,j⟩:=l.out.2.1 (by rw[HQ.out]);rw[HQ.out] at j;simp only at j;have hi:=(l.out.1.1.nd r x j).1;have c0:=i.out.cell0;have ac:=i.out.hit j (by omega);obtain⟨-,v,m,hz,-⟩:=i.out.item r x j;obtain⟨-,d1,d2,-⟩:=a0m hz;have HX:=qh j;have HI:=qh hi;rcases l.out.1.1.kind j with hk | hk
 rotate_left
 ·rw[hk] at d1;clear hz j hk hi;go_wp2_with fail;go_ret;exact TPost.same i.out l.out.1 (TChg.of_below d.out.1) 22
 rw[hk] at d1;obtain⟨u,y,s,V,S,a4,aa,hy,E,hs⟩:=l.out.2.2 r HQ.out (.inl (l.out.1.root1 j (by omega)));have a5:s.length<=1000000:=a8.out s (by rw[S];simp);have N:=HP.out _ d.out.1;rw[V,a4,a2O] at N;obtain⟨R,Y,a2⟩:=l.out.1.unlink j hk hy E hs;have a9:=qh N;have z:=qh (aI R (aI Y (aI a2 (aI hy (aI E (aI hk a5))))));have HI:=qh hi;clear hz j hk hi V S a4 aa hy E hs a5 N R Y a2 HP HQ d2;go_wp2_with fail;refine a9.out.mono ?_;rintro e w2 ⟨rfl,hb2⟩;have K:=i.out.below hb2;obtain⟨w3,a7,I,Q⟩:=a8p K z.out.2.2.2.1 z.out.2.2.2.2.1 z.out.2.2.2.2.2.2;obtain⟨-,e7,-⟩:=K.dir z.out.2.2.2.1 z.out.2.2.2.2.1;obtain⟨-,v3,m3,J,-⟩:=I.item r x z.out.2.1;obtain⟨-,-,g2,-⟩:=a0m J;have f2:=a0e J 2;obtain⟨lk,C⟩:=qnm x.n.links;rw[<-C] at g2;have a1:=(l.out.1.1.nd r x HX.out).2.2.1;have e1:IntKind.i64.wrap (lk - 1)=lk - 1:=Ak _ (by obtain⟨_,_,h3,h4,_⟩:=a1;omega);have A:=I.links z.out.2.1 (lk - 1);obtain⟨T3,g⟩:=qnm (a01 (a01 T u ⟨y.n,y.b,a1K s y.names⟩) r ⟨a2a x.n (lk - 1),x.b,x.names⟩);rw[<-g] at A;have H:=z.out.2.2.1;rw[<-C,<-g] at H;have M:getK r T3=some ⟨a2a x.n (lk - 1),x.b,x.names⟩:=by rw[g,a0q,Ah rfl,z.out.2.1];rfl
 have ab:=qh (a7a A.1 r _ M (l.out.1.1.nd r x HX.out).2.1 (by have:=HI.out;omega));have D:=qh (aI H (aI ((TChg.of_below (B:=B) d.out.1).trans ((TChg.of_below (B:=B) hb2).trans (Q.trans A.2))) (aI M C)));clear K I Q J a1 A g H M hb2 C;go_wp2_with (first | (at_builtin;refine a1Q rfl _ _ _ _ rfl _ _ rfl rfl a7 ?_) | fail);refine ab.out.mono ?_;rintro e w5 ⟨rfl,Z,a6⟩;have W:TGd c (a2f T3 r):=by
  obtain⟨k1,_,k3,_⟩:=D.out;unfold a2f;rw[k3];simp only;split
  ·rename_i h5;exact k1.settle k3 z.out.2.2.2.2.2.1 h5.1
  ·exact k1
 have P:=qh (TPost.same Z W (D.out.2.1.trans a6) 0);clear Z a6 W;go_wp2_with fail;go_ret;exact P.out
theorem b1A(h:TreeIn w L B t mb F G T)(H:TGd c T)(hc:c<=60000)(a:Option Addr)(n cap:Nat)(p:List (List UInt8))(hS:Ss w a n cap p)(U:∀s∈p,s.length<=1000000)(hn:n<=100000):
  Calls Tryz.prog 88 #[.pointer (some ⟨t,0,none⟩),.slice a n cap] w fun e w'=>TPost w L B t mb c e w':=by
 have HF:=qh (show Calls Tryz.prog 152 #[.slice (some ⟨w.heap.size,0,none⟩) 1 1] (w.alloc (.cells #[.slice a n cap] 37)) fun e w'=>(∃f:Nat,e= .returned (.int .i64 (f:Int))/\(f=0->fineP p=0))/\Below (w.alloc (.cells #[.slice a n cap] 37)).heap.size (w.alloc (.cells #[.slice a n cap] 37)) w' from
  (a3Z (w:=w.alloc (.cells #[.slice a n cap] 37)) w.heap.size a n cap p (by rw[a07];rfl) (hS.alloc _) U).mono (fun e w' h=>⟨⟨fineP p,h.1,id⟩,h.2⟩))
 have HP:=qh (fun w' (l:Below w.heap.size w w')=>a2h (h.below l) H.1 hc a n cap p (hS.below l) U hn);have HL:=qh (fun w' (l:Below w.heap.size w w')=>a39 (h.below l) H.1 hc a n cap p (hS.below l) U);have HT:=qh (fun w' (l:Below w.heap.size w w')=>h.below l);have hE:=qh ((Ext.refl w).alloc (.cells #[.slice a n cap] 37));have K:=a3y H.1 p 0 (by obtain⟨x,g,_⟩:=H.1.root;exact⟨x,g⟩);have Z:=fun k=>a2Y (T:=T) (p:=p) (k:=k)
 have o:=qh (aI H (aI K Z));have a7:=qh U;clear h H hS U K Z;go_enter Tryz.func88,Tryz.ntmps88;go_wp2_with fail;refine HF.out.mono ?_;rintro e w1 ⟨⟨f,rfl,X⟩,l⟩;have b:=qh (hE.out.step l);by_cases h0:f=0;rotate_left
 ·have h1:¬(f:Int)=0:=by omega
  go_wp2_with fail;go_ret;exact TPost.same (HT.out _ b.out.1) o.out.1 (TChg.of_below b.out.1) f
 subst h0;have ab:=qh (X rfl);have a1:=qh (HL.out w1 b.out.1);obtain⟨⟨z,q2⟩,hq⟩:∃q,q=a0I T 0 p:=⟨_,rfl⟩
 rw[<-hq] at a1;have HQ:=qh hq.symm;clear l hq HF HL hE X;go_wp2_with fail;refine a1.out.mono ?_;rintro e w2 ⟨rfl,rfl⟩;have d:=qh (HT.out _ b.out.1);by_cases h2:q2=0;rotate_left
 ·have h3:¬(q2:Int)=0:=by omega
  go_wp2_with fail;go_ret;exact TPost.same d.out o.out.1 (TChg.of_below b.out.1) q2
 subst h2;obtain⟨x,g⟩:=o.out.2.1 (by rw[HQ.out]);rw[HQ.out] at g;simp only at g;have Q:=(o.out.1.1.nd z x g).1;have c0:=d.out.cell0;have a8:=d.out.hit g (by omega);obtain⟨-,v,m,W,-⟩:=d.out.item z x g;obtain⟨-,d1,d2,-⟩:=a0m W;have HX:=qh g;have HI:=qh Q;rcases o.out.1.1.kind g with hk | hk
 ·rw[hk] at d1;clear W g hk Q d2;go_wp2_with fail;go_ret;exact TPost.same d.out o.out.1 (TChg.of_below b.out.1) 23
 rw[hk] at d1;by_cases r:z=0
 ·have M:((z:Int) == 0)=true:=by simp[r]
  clear W g hk Q d2 r;go_wp2_with fail;go_ret;exact TPost.same d.out o.out.1 (TChg.of_below b.out.1) 1
 have M:¬(z:Int)=0:=by omega
 obtain⟨ln,hln⟩:=qnm x.names.length;have a9:=b3T d.out g hk ln hln.symm;obtain⟨-,d7,-⟩:=d.out.dir g hk;by_cases a6:ln=0;rotate_left
 ·have aa:(0:Int)<(ln:Int):=by omega
  clear W g hk Q d2 hln;go_wp2_with fail;go_ret;exact TPost.same d.out o.out.1 (TChg.of_below b.out.1) 24
 subst a6;obtain⟨u,y,s,a0,Y,O,a4,hy,J,hs⟩:=o.out.2.2 z HQ.out (.inl r);have P:s.length<=1000000:=a7.out s (by rw[Y];simp);have D:=HP.out _ b.out.1;rw[a0,O,a2O] at D;have V:=o.out.1.rmdir g hk r hy hs;have a5:=qh D;have I:=qh (aI V (aI hy (aI J P)));clear W g hk Q a0 Y O a4 hy J hs P D V HP HQ d2 hln;go_wp2_with fail;refine a5.out.mono ?_;rintro e w2 ⟨rfl,hb2⟩;have E:=d.out.below hb2;obtain⟨w3,a3,j,R⟩:=a8p E I.out.2.1 I.out.2.2.1 I.out.2.2.2;obtain⟨-,e7,-⟩:=E.dir I.out.2.1 I.out.2.2.1;have e0:=j.cell0;obtain⟨w4,S,A,C⟩:=j.map.del numS a1m a04 (a9I z (by have:=HI.out;omega)) 0;rw[a3X] at A;have a2:∀ty,(Builtin.delete_ #[226,3] ty #[.map (some mb),.int .i64 (z:Int)]).run Tryz.prog w3= .ok (.tuple #[]) w4:=fun ty=>S
 have N:=qh (show TPost w L B t mb c (.returned (.int .i64 ((0:Nat):Int))) w4 from⟨0,rfl,⟨F,G,_,j.delItem (i:=z) (a0E C) A,I.out.1.mono (As _)⟩,(TChg.of_below (B:=B) b.out.1).trans ((TChg.of_below (B:=B) hb2).trans (R.trans (TChg.map C j.mge)))⟩);clear E j R A C S hb2;go_wp2_with (first | (at_builtin;first | refine a1Q rfl _ _ _ _ rfl _ _ rfl rfl a3 ?_ | refine a1Q rfl _ _ _ _ rfl _ _ rfl rfl a2 ?_) | fail);go_ret;exact N.out
theorem b2Z(h:TreeIn w L B t mb F G T)(R:TGd c T)(hc:c<=60000)(a:Option Addr)(n cap:Nat)(p:List (List UInt8))(hS:Ss w a n cap p)(hm:∀s∈p,s.length<=1000000)(hn:n<=100000)(b:Option Addr)(W g:Nat)(p2:List (List UInt8))(I:Ss w b W g p2)(K:∀s∈p2,s.length<=1000000)(aa:W<=100000):
  Calls Tryz.prog 86 #[.pointer (some ⟨t,0,none⟩),.slice a n cap,.slice b W g] w fun e w'=>TPost w L B t mb c e w':=by
 have HF:=qh (a66 (w:=w.alloc (.cells #[.slice a n cap,.slice b W g] 37)) w.heap.size a b n cap W g p p2 (Ae w _) (hS.alloc _) hm (I.alloc _) K);have ac:=qh (fun w' (u:Below w.heap.size w w')=>a2h (h.below u) R.1 hc b W g p2 (I.below u) K aa);have HP:=qh (fun w' (u:Below w.heap.size w w')=>a2h (h.below u) R.1 hc a n cap p (hS.below u) hm hn);have HL:=qh (fun w' (u:Below w.heap.size w w')=>a39 (h.below u) R.1 hc a n cap p (hS.below u) hm);have HT:=qh (fun w' (u:Below w.heap.size w w')=>h.below u);have hE:=qh ((Ext.refl w).alloc (.cells #[.slice a n cap,.slice b W g] 37));have a5:=a3y R.1 p 0 (by obtain⟨x,z,_⟩:=R.1.root;exact⟨x,z⟩);have a3:=fun k=>a2Y (T:=T) (p:=p) (k:=k)
 have A:=qh (aI R (aI a5 a3));have ah:=qh (aI hm K);have aj:=qh (aI hS (aI I (aI hn aa)));clear h R hS hm a5 a3 I K;go_enter Tryz.func86,Tryz.ntmps86;go_wp2_with fail;refine HF.out.mono ?_;rintro e w1 ⟨⟨f,rfl,a9⟩,u⟩;have i:=qh (hE.out.step u);by_cases h0:f=0;rotate_left
 ·have h1:¬(f:Int)=0:=by omega
  go_wp2_with fail;go_ret;exact TPost.same (HT.out _ i.out.1) A.out.1 (TChg.of_below i.out.1) f
 subst h0;have af:=qh (a9 rfl);have a7:=qh (HL.out w1 i.out.1);obtain⟨⟨C,q2⟩,hq⟩:∃q,q=a0I T 0 p:=⟨_,rfl⟩
 rw[<-hq] at a7;have HQ:=qh hq.symm;clear u hq HF HL hE a9;go_wp2_with fail;refine a7.out.mono ?_;rintro e w2 ⟨rfl,rfl⟩;have d:=qh (HT.out _ i.out.1);by_cases h2:q2=0;rotate_left
 ·have h3:¬(q2:Int)=0:=by omega
  go_wp2_with fail;go_ret;exact TPost.same d.out A.out.1 (TChg.of_below i.out.1) q2
 subst h2;obtain⟨x,z⟩:=A.out.2.1 (by rw[HQ.out]);rw[HQ.out] at z;simp only at z;have hi:=(A.out.1.1.nd C x z).1;have c0:=d.out.cell0;have H:=d.out.hit z (by omega);obtain⟨-,v,m,M,-⟩:=d.out.item C x z;obtain⟨-,X,d2,-⟩:=a0m M;have HX:=qh z;have HI:=qh hi;rcases A.out.1.1.kind z with hk | hk
 rotate_left
 ·rw[hk] at X;clear M z hk hi d2;go_wp2_with fail;go_ret;exact TPost.same d.out A.out.1 (TChg.of_below i.out.1) 22
 rw[hk] at X;obtain⟨lk,U⟩:=qnm x.n.links;rw[<-U] at d2;have ab:=a3i A.out.1.1 p2;have a2:=qh ab;have j:=qh (ac.out _ i.out.1);obtain⟨⟨r1,r2⟩,hr⟩:∃r,r=a02 T p2:=⟨_,rfl⟩
 rw[<-hr] at j a2;have N:=qh (aI hk U);clear hk U hr ab HP ac M HQ;by_cases h2:r2=0;rotate_left
 ·have h3:¬(r2:Int)=0:=by omega
  rw[a3h _ _ _ _ h2] at j;go_wp2_with fail;refine j.out.mono ?_;rintro e w2 ⟨rfl,hb2⟩;have ag:=qh (d.out.below hb2);have D:=qh (i.out.step hb2);clear hb2;go_wp2_with fail;go_ret;exact TPost.same ag.out A.out.1 (TChg.of_below D.out.1) r2
 subst h2;obtain⟨y,hy,Z,ae⟩:=a2.out rfl;simp only at hy;have E:fineP p2=0->(p2.getLast?.getD []).length<=16:=fun hf=>by
  cases hl:p2.getLast? with
  | none=>simp
  | some s=>exact a4U ((a5k hf).1 s (BF hl))
 have E:=E af.out.2;rw[a2O] at j;obtain⟨s,hs⟩:=qnm (p2.getLast?.getD []);rw[<-hs] at j E;have l:=qh (aI hy (aI Z E));clear hy Z ae E hs c0 H X d2;have c0:=d.out.cell0;have H:=d.out.hit z (by omega);obtain⟨-,v,m,M,-⟩:=d.out.item C x z;obtain⟨-,X,-,-⟩:=a0m M;rw[N.out.1] at X;clear M z hi;go_wp2_with fail;refine j.out.mono ?_;rintro e w2 ⟨rfl,hb2⟩;have o:=qh (d.out.below hb2);have D:=qh (i.out.step hb2);clear hb2 j c0 H X;obtain⟨-,e7,hM⟩:=o.out.dir l.out.1 l.out.2.1;have J:=a4O hM s (by have:=l.out.2.2;omega);obtain⟨-,v,m,M,-⟩:=o.out.item C x HX.out;obtain⟨-,-,d2,-⟩:=a0m M;rw[<-N.out.2] at d2;clear hM M;cases Y:getK s y.names with
 | some k=>
  rw[Y] at J;simp only[B8,Bp] at J;clear Y;go_wp2_with fail;go_ret;exact TPost.same o.out A.out.1 (TChg.of_below D.out.1) 21
 | none=>
  rw[Y] at J;simp only[Ct,Bq] at J;by_cases ai:(64:Int)<=lk
  ·clear Y;go_wp2_with fail;go_ret;exact TPost.same o.out A.out.1 (TChg.of_below D.out.1) 4
  have O:=A.out.1.link HX.out N.out.1 l.out.1 l.out.2.1 Y l.out.2.2 (by have:=N.out.2;omega);obtain⟨w3,ad,Q,a1⟩:=a6q (id:=C) o.out l.out.1 l.out.2.1 (show s.length<=1000000 by have:=l.out.2.2;omega) (by have:=(A.out.1.1.nd r1 y l.out.1).2.2.2.2;omega);have a4:B<=G r1:=by obtain⟨_,v,m,_,_,k4,_⟩:=o.out.item r1 y l.out.1;exact(k4 l.out.2.1).2.1
  have a6:C≠r1:=fun e=>by
   have h1:=HX.out;rw[e,l.out.1] at h1;injection h1 with h1
   have:=N.out.1;have:=l.out.2.1;rw[h1] at this;omega
  have V:getK C (a01 T r1 ⟨y.n,y.b,a1w a0L s C y.names⟩)=some x:=by rw[a0q,Ag a6];exact HX.out
  obtain⟨-,v3,m3,S,-⟩:=Q.item C x V;obtain⟨-,-,g2,-⟩:=a0m S;have f2:=a0e S 2;rw[<-N.out.2] at g2;have a8:=(A.out.1.1.nd C x HX.out).2.2.1;have e1:IntKind.i64.wrap (lk+1)=lk+1:=Ak _ (by have:=N.out.2;obtain⟨_,_,h3,h4,_⟩:=a8;omega);have P:=Q.links V (lk+1);rw[<-N.out.2] at O;have a0:=qh (show TPost w L B t mb c (.returned (.int .i64 ((0:Nat):Int))) (w3.setCell ⟨F C,2,none⟩ (.int .i64 (lk+1))) from⟨0,rfl,⟨F,G,_,P.1,O⟩,(TChg.of_below (B:=B) D.out.1).trans ((TChg.map a1 a4).trans P.2)⟩);clear Q a1 a4 a6 V S a8 P O Y;go_wp2_with (first | (at_mapUpdate;refine a1b rfl _ _ _ _ (.inl rfl) _ _ _ rfl rfl rfl ad ?_) | fail);go_ret;exact a0.out
end
section
open Go.RowKit
theorem a6y(a:Option Addr)(c cap:Nat)(xs:List UInt8)(w:World)(q:Bs w a c cap xs)(t:c<=100000):
  Calls Tryz.prog 60 #[.slice a c cap] w fun e w'=>(∃v,e= .returned v/\Own w' w.heap.size v (sha (3 :: xs)))/\Below w.heap.size w w':=by
 obtain⟨r,d⟩:=qnm (w.alloc (.cells #[.int .u8 3] TB));obtain⟨w2,b⟩:=qnm (r.alloc (.cells #[.slice (some ⟨w.heap.size,0,none⟩) 1 1,.slice a c cap] TBS));have hb1:=qba d;have hb2:=qba b;have f:r.heap.size=w.heap.size+1:=by rw[d];simp
 have x:Bs r (some ⟨w.heap.size,0,none⟩) 1 1 [3]:=by rw[d];exact Bs.one w 3
 have g:LL w2 (some ⟨w.heap.size+1,0,none⟩) 2 2 [[3],xs]:=⟨rfl,Aa _,by unfold maxLen;omega,.inr ⟨w.heap.size+1,0,rfl,by rw[b];simp[f],fun i B=>by
  have o:i=0∨i=1:=by simp at B;omega
  rcases o with rfl | rfl
  ·exact⟨some ⟨w.heap.size,0,none⟩,1,1,by rw[b,<-f,Az];rfl,x.below hb2⟩
  ·exact⟨a,c,cap,by rw[b,<-f,Az];rfl,(q.below hb1).below hb2⟩⟩⟩
 have k:=q.1;have z:=qh (a4e 2 2 (some ⟨w.heap.size+1,0,none⟩) [[3],xs] w2 g (by omega) (by simp;omega));have j:([[3],xs]:List (List UInt8)).flatten=3 :: xs:=by simp
 rw[j] at z;have y:=qh (aI b d);have m:=qh (aI (hb1.trans (hb2.mono hb1.size)) (show w.heap.size<=w2.heap.size from Ad hb1.size hb2.size));have E:=qh (aI k t);clear hb1 hb2 f x g d b q j k t;go_enter Tryz.func60,Tryz.ntmps60;go_wp2_with (rw[<-y.out.2];rw[<-y.out.1]);refine z.out.mono ?_;rintro e F ⟨v,rfl,l,hb3⟩;obtain⟨n,p⟩:∃n,(3 :: xs).length=n:=⟨_,rfl⟩
 obtain⟨G,A,rfl,h⟩:=l.bsn p;have D:=qh (a2I G n A (3 :: xs) F h (by have:=E.out;simp at p;omega));have C:=qh (m.out.1.trans (hb3.mono m.out.2));have u:=qh (Ad m.out.2 hb3.size);clear l p h hb3;go_wp2_with fail;refine D.out.mono ?_;rintro e H ⟨v,rfl,l,hb4⟩;have s:=qh (aI (l.base u.out) (C.out.trans (hb4.mono u.out)));clear l hb4;go_wp2_with fail;go_ret;exact⟨⟨v,rfl,s.out.1⟩,s.out.2⟩
end
section
open Go.RowKit Go.Shelf
attribute [local go_sem] Oper.semAt_some
def a7r(a:Nat):Nat:=(a+127) / 128
abbrev CI(a:Nat):Type:={ k:Nat // 128 * k<a }
def ckV(a:Option Addr)(b k:Nat):Value:=.slice (a.map (·.add (128 * k))) (min 128 (b - 128 * k)) (min 128 (b - 128 * k))
theorem b1r(F:Fence)(n:Nat)(d:F.fn 119)(c:F.round=none)(a:Option Addr)(b cap:Nat)(w:World):
  CallsIn F n Tryz.prog 119 #[.slice a b cap,.int .i64 128] w fun e w'=>e= .returned (.func (.func 201) #[] #[.pointer (some ⟨w.heap.size,0,none⟩),.pointer (some ⟨w.heap.size+1,0,none⟩)])/\w'=(w.alloc (.cells #[.slice a b cap] 30)).alloc (.cells #[.int .i64 128] 3):=by
 refine callsIn_of_wp Tryz.func119 rfl d ?_ c;simp only[Tryz.ntmps119,Co,AA,Ay,Nat.reduceAdd,Nat.reduceSub,B7,B6,Cp,Cf,AJ,Be]
 gi_wp2
 go_ret;exact⟨rfl,rfl⟩
theorem b63(b o a k m:Nat)(d:m=min 128 (a - 128 * k)):ckV (some ⟨b,o,none⟩) a k= .slice (some ⟨b,o+128 * k,none⟩) m m:=by
 unfold ckV;rw[<-d];by_cases c:k=0
 ·simp[Addr.add,c]
 ·have e:¬128 * k=0:=by omega
  simp[Addr.add,e]
theorem b4G(F:Fence)(n:Nat)(Z:F.fn 201)(Q:F.round=none)(hn:1<=n)(l m q:Nat)(a:Option Addr)(len cap:Nat)(a4:len<=cap)(a3:len<=1000000)(T:0<len->∃b o,a=some ⟨b,o,none⟩)(J U:List (CI len)->World->Prop)
  (M:∀s W,J s W->J s W.drew)
  (X:∀pre x W,J pre W->pre.length<a7r len->YieldAt F (n - 1) Tryz.prog l #[ckV a len x.1] W fun e W'=>
   (e= .returned (.bool true)/\J (pre ++[x]) W'/\(W'.heap[m]? =W.heap[m]?/\W'.heap[q]? =W.heap[q]?))∨(e= .returned (.bool false)/\U (pre ++[x]) W'))
  (W:World) (G:Boxed W m 30 (.slice a len cap)) (C:Boxed W q 3 (.int .i64 128)) (h0:J [] W):
  CallsIn F n Tryz.prog 201 #[.func (.yield l) #[] #[],.pointer (some ⟨m,0,none⟩),.pointer (some ⟨q,0,none⟩)] W fun e W'=>(∃v,e= .returned v)/\
   ((∃ys,ys.map (·.1)=List.range (a7r len)/\J ys W')∨(∃pre,True/\U pre W')):=by
 refine callsIn_of_wp Tryz.func201 rfl Z ?_ Q;simp only[Tryz.ntmps201,Co,AA,Ay,Nat.reduceAdd,Nat.reduceSub,B7,B6,Cp,Cf,AJ,Be]
 gi_wp2
 gi_loopw [4] (fun i wr=>∃(k:Nat) (pre:List (CI len)),k<=a7r len/\i= .int .i64 ((128 * k:Nat):Int)/\pre.map (·.1)=List.range k/\J pre wr/\Boxed wr m 30 (.slice a len cap)/\Boxed wr q 3 (.int .i64 128))
  (fun i _=>len+128 - (intOf i).toNat)
 case atStart=>exact ⟨0,[],AH _,rfl,rfl,h0,G,C⟩
 case round=>
  obtain⟨k,pre,hk,rfl,g,z,O,P⟩:=hrel;have a2:=O.cell;have a0:=P.cell;have a1:128 * k<=1000128:=by unfold a7r at hk;omega
  by_cases I:128 * k<len
  ·have H:k<a7r len:=by unfold a7r;omega
   have t:k+1<=a7r len:=H;obtain⟨x,R⟩:∃x:CI len,x.1=k:=⟨⟨k,I⟩,rfl⟩
   obtain⟨fn,tmps,assign,body,L,S⟩:=X pre x wr.drew (M _ _ z) (by rw[<-AC (f:=(·.1)),g,List.length_range];exact H);obtain⟨b,o,rfl⟩:=T (by omega);rw[R] at L;have r:=qh (show(pre ++[x]).map (·.1)=List.range (k+1) by rw[AZ,g,List.range_succ,<-R];rfl);have A:=qh O;have hz9:=qh P;have Y:¬cap=128 * k:=by omega
   have e1:((128 * k:Nat):Int)<(len:Int):=by omega
   have e2:(0:Int)<=((128 * k:Nat):Int):=by omega
   have e3:128 * k<=cap:=by omega
   have E:=qh (show 128 * k+128=128 * (k+1) by omega);clear R g O P G C T X z;rcases BE (len - 128 * k) 128 with N | N
   ·have e4:((len - 128 * k:Nat):Int)<128:=by omega
    have e5:128 * k+(len - 128 * k)=len:=by omega
    rw[b63 b o len k (len - 128 * k) (by omega)] at L;generalize 128 * k=K at *;clear N
    gi_wp2
    gi_region
    all_goals
     gi_wp2
     refine S.mono ?_;rintro e p (⟨rfl,y,d,c⟩ | ⟨rfl,j⟩)
     ·have D:=(show Boxed p m 30 (.slice (some ⟨b,o,none⟩) len cap) from d.trans A.out).cell;have B:=(show Boxed p q 3 (.int .i64 128) from c.trans hz9.out).cell;have u:=qh (show Boxed p m 30 (.slice (some ⟨b,o,none⟩) len cap) from d.trans A.out);have w:=qh (show Boxed p q 3 (.int .i64 128) from c.trans hz9.out);clear d c A hz9
      gi_wp2
      go_roundw;case rel=>exact ⟨k+1,_,t,by rw[<-E.out];go_num,r.out,y,u.out,w.out⟩
      case measure=>simp [intOf];omega
     ·gi_wp2
      refine Aj (CF rfl _ _ _) rfl ?_;exact⟨⟨_,rfl⟩,.inr ⟨_,trivial,j⟩⟩
   ·have e4:¬((len - 128 * k:Nat):Int)<128:=by omega
    have e6:(128:Int)<=((len - 128 * k:Nat):Int):=by omega
    have e5:128 * k+128<=len:=by omega
    rw[b63 b o len k 128 (by omega)] at L;generalize 128 * k=K at *;clear N
    gi_wp2
    gi_region
    all_goals
     gi_wp2
     refine S.mono ?_;rintro e p (⟨rfl,y,d,c⟩ | ⟨rfl,j⟩)
     ·have D:=(show Boxed p m 30 (.slice (some ⟨b,o,none⟩) len cap) from d.trans A.out).cell;have B:=(show Boxed p q 3 (.int .i64 128) from c.trans hz9.out).cell;have u:=qh (show Boxed p m 30 (.slice (some ⟨b,o,none⟩) len cap) from d.trans A.out);have w:=qh (show Boxed p q 3 (.int .i64 128) from c.trans hz9.out);clear d c A hz9
      gi_wp2
      go_roundw;case rel=>exact ⟨k+1,_,t,by rw[<-E.out];go_num,r.out,y,u.out,w.out⟩
      case measure=>simp [intOf];omega
     ·gi_wp2
      refine Aj (CF rfl _ _ _) rfl ?_;exact⟨⟨_,rfl⟩,.inr ⟨_,trivial,j⟩⟩
  ·obtain rfl:k=a7r len:=by unfold a7r at hk ⊢;omega
   have V:¬((128 * a7r len:Nat):Int)<(len:Int):=by omega
   gi_wp2
   go_end0;exact⟨⟨_,rfl⟩,.inl ⟨_,g,z⟩⟩
end
section
open Go.RowKit Go.Shelf
attribute [local go_sem] Oper.semAt_some
def chk(xs:List UInt8)(k:Nat):List UInt8:=(xs.drop (128 * k)).take 128
theorem b4H(xs:List UInt8)(k:Nat):((List.range k).map (chk xs)).flatten=xs.take (128 * k):=by
 induction k with
 | zero=>simp
 | succ k a=>
  rw[List.range_succ,AZ,AT,a];rw[show 128 * (k+1)=128 * k+128 by omega,List.take_add];simp[chk]
theorem a7J(xs:List UInt8)(k:Nat):(chk xs k).length=min 128 (xs.length - 128 * k):=by simp[chk]
set_option maxRecDepth 100000 in
set_option maxHeartbeats 1000000 in
theorem a6J(F:Fence)(n:Nat)(u:F.fn 201)(i:F.round=none)(v:1<=n)(d f:Nat)(a:Option Addr)(c cap:Nat)(j:c<=cap)(k:c<=1000000)(p:0<c->∃b o,a=some ⟨b,o,none⟩)(w:World)
  (h:Boxed w d 30 (.slice a c cap)) (g:Boxed w f 3 (.int .i64 128)):
  SeqStopsK F n Tryz.prog 201 #[.pointer (some ⟨d,0,none⟩),.pointer (some ⟨f,0,none⟩)] (fun x:CI c=>#[ckV a c x.1]) (fun W W'=>W'.heap[d]? =W.heap[d]?/\W'.heap[f]? =W.heap[f]?) (fun ys=>ys.map (·.1)=List.range (a7r c)) (fun _=>True) (a7r c) w:=fun l J y W m q z A t=>by
 refine b4G F n u i v l d f a c cap j k p J y (fun s W B=>?_) A W ?_ ?_ t
 ·exact q s W W.drew none B ⟨rfl,rfl,rfl,Aa _,fun _ _ _=>rfl⟩ (fun r e=>by cases e)
 ·exact(m.block d h.lt).trans h
 ·exact(m.block f g.lt).trans g
theorem Bs.chunk{w:World}{a:Option Addr}{c cap:Nat}{xs:List UInt8}(h:Bs w a c cap xs)(k m:Nat)(hk:128 * k<c)(j:m=min 128 (c - 128 * k)):Bs w (a.map (·.add (128 * k))) m m (chk xs k):=by
 obtain⟨n,p,h3,e⟩:=h;refine⟨by rw[a7J,n,j],Aa _,by omega,?_⟩;rcases e with e | ⟨b,off,rfl,g,l⟩
 ·omega
 ·refine .inr ⟨b,off+128 * k,?_,g,fun i o=>?_⟩
  ·by_cases f:k=0
   ·simp[Addr.add,f]
   ·have:¬128 * k=0:=by omega
    simp[Addr.add,this]
  ·have d:128 * k+i<xs.length:=by rw[a7J] at o;omega
   have:=l (128 * k+i) d;rw[show off+128 * k+i=off+(128 * k+i) by omega,this];simp[chk]
theorem Bs.keptc{w w':World}{row:Option Nat}{a:Option Addr}{d cap:Nat}{xs:List UInt8}(h:Bs w a d cap xs)(i:w.grownBy w' row)(j:∀r,row=some r->∃o:Obj,w.heap[r]? =some o/\o.isCells=false):Bs w' a d cap xs:=by
 refine h.grown i fun m l c e=>?_
 obtain⟨q,s,h3,f⟩:=h;rcases f with f | ⟨b,off,rfl,n,g⟩
 ·omega
 ·injection c with c;subst c
  obtain⟨o,k,p⟩:=j b e;have:=g 0 (by omega);simp only[World.cell?,k] at this;cases o <;>simp_all [Obj.isCells]
end
end Go.Proofs.YtbemfdcjieakdaaGreatDoor
