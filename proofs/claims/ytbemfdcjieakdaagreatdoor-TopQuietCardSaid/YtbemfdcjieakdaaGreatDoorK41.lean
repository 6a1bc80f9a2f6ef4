/- StDo; StWrite; StDoW; StGd. -/
import Derived.Test.YtbemfdcjieakdaaGreatDoorK29
import Derived.Test.YtbemfdcjieakdaaGreatDoorK40
set_option maxRecDepth 100000
set_option maxHeartbeats 8000000
namespace Go.Proofs.YtbemfdcjieakdaaGreatDoor
section
open Go.RowKit Go.ChangeMaps Go.MapKept
set_option linter.unusedVariables false
variable {w w' : World} {L B C s t sn c : Nat} {fp : Nat → Option Nat} {σ : StM}
theorem b7Q(h:StIn w L B C s t sn fp σ)(d:L<=B)(a:C<=B)(o:B<=w.heap.size)(u:Glob w)(p x:List UInt8)(v:p.length<=1000000)(l:x.length<=1000000)(fd c n:Int)(til:Nat)(g:Int)(i:Option Addr)(k j:Nat):
  Calls Tryz.prog 37 #[.pointer (some ⟨s,0,none⟩),.agg (a0b 17 (a0c p) (a0c x) fd c n til g i k j)] w fun e w'=>e= .returned (.agg (noC 0 0))/\(∃f,StIn w' L B C s t sn f σ)/\Fr B w w':=by
 refine(b7T h a o u p x v l fd c n til g i k j).mono ?_;rintro e w' ⟨R,y,N,rfl,⟨rfl,q⟩,hF,r,b,m,rfl⟩;exact⟨rfl,⟨_,q.setReply d a b r⟩,hF.setRow b m _⟩
theorem b4s(h:StIn w L B C s t sn fp σ)(F:TrOk c σ.T)(J:c<=60000)(f:L<=B)(b:C<=B)(E:B<=w.heap.size)(D:Glob w)(p x:List UInt8)(y:p.length<=1000000)(K:x.length<=1000000)(q:List (List UInt8))(u:a0g p=(q,0))(A:∀s∈q,s.length<=1000000)
  (fd g n:Int) (til:Nat) (r:Int) (l:Option Addr) (o k:Nat) (z:q.length<=100000):
  Calls Tryz.prog 37 #[.pointer (some ⟨s,0,none⟩),.agg (a0b 1 (a0c p) (a0c x) fd g n til r l o k)] w fun e w'=>e= .returned (.agg (noC (a1n c σ q).2.1 (a1n c σ q).2.2))/\(∃i,StIn w' L B C s t sn i (a1n c σ q).1)/\Fr B w w':=
 (a9s h b E D p x y K q u fd g n til r l o k (YX L B C s t sn (a1n c σ q).1 (noC (a1n c σ q).2.1 (a1n c σ q).2.2)) (fun _ a m I H j d=>(a7F H F J f b j a m I q d A (by have:=d.1;omega)).mono fun _ _ ⟨v,G,h3⟩=>⟨_,_,none,0,0,none,0,0,a0z,v,⟨rfl,G⟩,h3⟩)).mono fun _ _ h=>h.exact f b
theorem b6n(h:StIn w L B C s t sn fp σ)(y:TrOk c σ.T)(g:∀i o,i<8->σ.fds i=some o->o.id<=1000000)(d:L<=B)(a:C<=B)(v:B<=w.heap.size)(z:Glob w)(p x:List UInt8)(E:p.length<=1000000)(r:x.length<=1000000)
  (fd b n:Int) (til:Nat) (f:Int) (j:Option Addr) (m k:Nat):
  Calls Tryz.prog 37 #[.pointer (some ⟨s,0,none⟩),.agg (a0b 6 (a0c p) (a0c x) fd b n til f j m k)] w fun e w'=>e= .returned (.agg (noC (a2v σ fd til).2 0))/\(∃q,StIn w' L B C s t sn q (a2v σ fd til).1)/\Fr B w w':=
 (b1o h a v z p x E r fd b n til f j m k (YX L B C s t sn (a2v σ fd til).1 (noC (a2v σ fd til).2 0)) (fun _ u l=>(a9x u y g d a l 6 (a0c p) (a0c x) fd b n til f j m k).mono fun _ _ ⟨A,D,h3⟩=>⟨_,A,⟨rfl,D⟩,h3⟩) (YX.bears a)).mono fun _ _ h=>h.exact d a
theorem b4q(h:StIn w L B C s t sn fp σ)(H:TrOk c σ.T)(J:c<=60000)(i:L<=B)(b:C<=B)(G:B<=w.heap.size)(F:Glob w)(p x:List UInt8)(A:p.length<=1000000)(K:x.length<=1000000)(q:List (List UInt8))(y:a0g p=(q,0))(D:∀s∈q,s.length<=1000000)
  (fd f n:Int) (til:Nat) (r:Int) (l:Option Addr) (o k:Nat) (E:unlWhy σ q≠0):
  Calls Tryz.prog 37 #[.pointer (some ⟨s,0,none⟩),.agg (a0b 8 (a0c p) (a0c x) fd f n til r l o k)] w fun e w'=>e= .returned (.agg (noC (unlWhy σ q:Int) 0))/\(∃j,StIn w' L B C s t sn j σ)/\Fr B w w':=
 (a9r h b G F p x A K q y fd f n til r l o k (YX L B C s t sn σ (noC (unlWhy σ q:Int) 0)) (fun _ a m I v d g=>(a8H v H J b d a m I q g D E).mono fun _ _ ⟨z,u⟩=>⟨_,z,⟨rfl,_,v.below (Ad b d) u⟩,Fr.of u d⟩) (YX.bears b)).mono fun _ _ h=>h.exact i b
theorem b7R(h:StIn w L B C s t sn fp σ)(H:TrOk c σ.T)(J:c<=60000)(o:L<=B)(b:C<=B)(G:B<=w.heap.size)(F:Glob w)(p x:List UInt8)(D:p.length<=1000000)(K:x.length<=1000000)(q:List (List UInt8))(z:a0g p=(q,0))(E:∀s∈q,s.length<=1000000)
  (fd f n:Int) (til:Nat) (r:Int) (k:Option Addr) (l i:Nat) (j:r=0):
  Calls Tryz.prog 37 #[.pointer (some ⟨s,0,none⟩),.agg (a0b 12 (a0c p) (a0c x) fd f n til r k l i)] w fun e w'=>e= .returned (.agg (rpC ((a1u σ.T q).2:Int) 0 (.slice none 0 0) (.slice none 0 0) (a1u σ.T q).1))/\(∃u,StIn w' L B C s t sn u σ)/\Fr B w w':=
 (b4x h b G F p x D K q z fd f n til r k l i (YX L B C s t sn σ (rpC ((a1u σ.T q).2:Int) 0 (.slice none 0 0) (.slice none 0 0) (a1u σ.T q).1)) (fun _ a m I y d g=>by subst j;exact(b29 y H J b d (a0c p) (a0c x) fd f n til k l i a m I q g E).mono fun _ _ ⟨A,v⟩=>⟨_,_,none,0,0,none,0,0,_,A,⟨rfl,_,y.below (Ad b d) v⟩,Fr.of v d⟩)).mono fun _ _ h=>h.exact o b
end
section
open Go.RowKit Go.ChangeMaps Go.MapKept
variable {w w' : World} {L B C s t sn c : Nat} {fp : Nat → Option Nat} {σ : StM}
def a1D(σ:StM)(n:Int)(a:List UInt8):StM×Nat×Int:=
 if a2w σ n=true then(match σ.fds n.toNat with
  | none=>(σ,26,0)
  | some o=>if 600<a.length then(σ,3,0) else if(a6Q σ.T o.id a).1≠0 then(σ,(a6Q σ.T o.id a).1,0) else(⟨(a6Q σ.T o.id a).2,σ.S,σ.now,σ.fds⟩,0,(a.length:Int)))
 else(σ,26,0)
theorem b72(T:Tr)(i:Nat)(b:List UInt8)(h:(a6Q T i b).1≠0):(a6Q T i b).2=T:=by
 unfold a6Q at h⊢;by_cases a:fileT T i≠0
 ·rw[Ah a]
 rw[Ag a] at h⊢;cases d:getK i T with
 | none=>rfl
 | some x=>
  simp only[d] at h⊢;by_cases h3:x.n.closed=true
  ·rw[Ah h3]
  rw[Ag h3] at h⊢;split
  ·rfl
  ·rename_i c;rw[Ag c] at h;exact absurd rfl h
theorem b2E(h:StIn w L B C s t sn fp σ)(ok:TrOk c σ.T)(a0:∀i o,i<8->σ.fds i=some o->o.id<=1000000)(A:L<=B)(d:C<=B)(hB:B<=w.heap.size)
  (k:Int) (ps ts:ByteArray) (fd W n:Int) (til:Nat) (sp:Int) (da:Option Addr) (x dc:Nat) (f:List UInt8) (hD:Bs w da x dc f):
  Calls Tryz.prog 84 #[.pointer (some ⟨s,0,none⟩),.agg (a0b k ps ts fd W n til sp da x dc)] w fun e w'=>e= .returned (.agg (noC (a1D σ fd f).2.1 (a1D σ fd f).2.2))/\(∃ae,StIn w' L B C s t sn ae (a1D σ fd f).1)/\Fr B w w':=by
 obtain⟨w1,I⟩:=qnm (w.alloc (.cells (a0b k ps ts fd W n til sp da x dc) TOp));obtain⟨w0,P⟩:=qnm (w1.alloc (.cells rpZ TReply));obtain⟨N,hN⟩:=qnm w.heap.size;obtain⟨ad,ag,hb0,R,a7⟩:=b1z I P hN;have h0:=h.below (Ad d hB) hb0;have a1:B<=w0.heap.size:=Ad hB hb0.size;have a8:=hD.below hb0;have c0:w0.cell? ⟨s,0,none⟩=some (.pointer (some ⟨t,0,none⟩)):=a0a h0.cel 0;obtain⟨o0,o1,o2,o3,o4,o5,o6,o7,o8⟩:=a0A R;have a:=qh (aI hb0 (aI a1 (aI hB (aI (show B<=N+1 by omega) (show w.heap.size<=N+1 by omega)))));have X:=qh h0;have D:=qh (aI R a7);have HW:=qh (aI P (aI I hN));have V:=qh (aI ok (aI a0 a8));have af:=qh hD.1;clear h h0 hb0 R a7 a1 P I ok a0 hD a8 ad ag hN;go_enter Tryz.func84,Tryz.ntmps84;go_upto_region 1 with fail
 have u:=qh HW.out;unfold rpZ a0b at u;unfold a0b;rw[<-u.out.2.1,<-u.out.1,<-u.out.2.2];clear u HW;cases p:a2w σ fd with
 | true=>
  obtain⟨j,o,rfl,hj,ho,a4⟩:=a4h σ fd p;have E:=qh (a9n X.out j hj o ho true a4);have Q:a1D σ (j:Int) f=if 600<f.length then(σ,3,0) else if(a6Q σ.T o.id f).1≠0 then(σ,(a6Q σ.T o.id f).1,0) else(⟨(a6Q σ.T o.id f).2,σ.S,σ.now,σ.fds⟩,0,(f.length:Int)):=by
   unfold a1D;rw[Ah p];have:((j:Int)).toNat=j:=by omega
   rw[this,ho]
  rw[af.out] at Q;have H:=qh Q;have hid:=V.out.2.1 j o hj ho;have a2:=qh (b72 σ.T o.id f);have a3:=qh (show ∀mb F G,TreeIn w0.drew L B t mb F G σ.T->_ from fun mb F G hT=>b5l (w:=w0.drew) hT V.out.1 (Ad A a.out.2.1) o.id hid da x dc f (V.out.2.2.below (Ab _ w0).drew));clear Q p ho a4 hid;by_cases hl:600<x
  ·have aa:(600:Int)<(x:Int):=by omega
   have O:=qh (show a1D σ (j:Int) f=(σ,3,0) by rw[H.out,Ah hl]);have z:=qh (a1G 3 w0);clear hl;go_wp2_with fail;refine E.out.mono ?_;rintro e w2 ⟨⟨g,rfl,hg,hO⟩,rfl⟩;clear hg hO;go_wp2_with fail;refine z.out.mono ?_;rintro e w3 ⟨rfl,hb3⟩;have b:=(hb3.block (N+1) (ltH D.out.2)).trans D.out.2;have K:=qh (aI (X.out.below (Ad d a.out.2.1) hb3) ((Fr.of a.out.1 a.out.2.2.1).trans (Fr.of hb3 a.out.2.1)));unfold noC;clear hb3;go_wp2_with (refine Ao rfl TReply (.tmp 4) (.tmp 24) rfl (N+1) (noC 3 0) rfl rfl TReply rpZ b (by kernel_rfl) (by kernel_rfl) (by kernel_rfl) ?_);refine Aj (v:=.agg (noC 3 0)) (Ap rfl _ _ (N+1) TReply _ (0,0) _ rfl (AF _ _ _ _ TReply (0,0) b) Tryz.underlying41 rfl (by kernel_rfl)) rfl ?_;rw[O.out];exact⟨rfl,⟨fp,K.out.1.setReply A d a.out.2.2.2.1 b⟩,K.out.2.setRow a.out.2.2.2.1 a.out.2.2.2.2 _⟩
  have aa:¬(600:Int)<(x:Int):=by omega
  have HL:=qh hl;clear hl;go_wp2_with fail;refine E.out.mono ?_;rintro e w2 ⟨⟨g,rfl,hg,hO⟩,rfl⟩;obtain⟨ov,Z,ab⟩:=hO;have d1:w0.cell? ⟨g,1,none⟩=some (.int .i64 (o.id:Int)):=a0a Z 1;obtain⟨mb,F,G,hT⟩:=X.out.tree;have a6:=qh (a3.out mb F G (hT.below (Ab _ w0).drew));clear Z ab hT a3 hg;go_upto_region 6 with fail
  refine a0K 10 (by kernel_rfl) (by kernel_rfl) rfl ?_;simp only[qtc,a3E];repeat still_step
  refine AK ?_;go_wp2_with fail;refine a6.out.mono ?_;rintro e w2 ⟨rfl,a5,y⟩;have U:∀C' ty fr k,w0.drew.heap[k]? =some (.cells C' ty fr)->ty≠a17->¬TM w0.drew B k:=fun C' ty fr k hk ac ⟨_,h⟩=>by
   rcases h with⟨C2,ah,h⟩ | ⟨es,cl,h⟩
   ·rw[hk] at h;injection h with h;injection h with _ h;exact ac h
   ·rw[hk] at h;injection h with h;cases h
  have J:w2.heap[N]? =some (.cells (a0b k ps ts (j:Int) W n til sp da x dc) TOp (0,0)):=(y.block N (ltH D.out.1) (U _ _ _ N D.out.1 (by decide))).trans D.out.1;have m:w2.heap[N+1]? =some (.cells rpZ TReply (0,0)):=(y.block (N+1) (ltH D.out.2) (U _ _ _ (N+1) D.out.2 (by decide))).trans D.out.2;have Y:StIn w2 L B C s t sn fp ⟨(a6Q σ.T o.id f).2,σ.S,σ.now,σ.fds⟩:=(X.out.below (Ad d a.out.2.1) (Ab _ w0).drew).setTree d a.out.2.1 y ⟨_,_,_,a5⟩;have M:Fr B w w2:=((Fr.of a.out.1 a.out.2.2.1).trans (Fr.of (Ab _ w0).drew a.out.2.1)).trans (Fr.tchg y a.out.2.1);have l:=qh (aI Y M);have a9:=qh (aI J m);clear a5 y Y M a6 d1 c0 o0 o1 o2 o3 o4 o5 o6 o7 o8 U;generalize a6Q σ.T o.id f=r at *;obtain⟨q,T2⟩:=r;simp only at l H a2⊢;by_cases hw:q=0
  ·subst hw;have O:=qh (show a1D σ (j:Int) f=(⟨T2,σ.S,σ.now,σ.fds⟩,0,(x:Int)) by rw[H.out,Ag HL.out,Ag (by simp)]);obtain⟨o0,o1,o2,o3,o4,o5,o6,o7,o8⟩:=a0A J;clear J;go_wp2_with (refine Ao rfl TReply (.tmp 4) (.tmp 43) rfl (N+1) (noC 0 (x:Int)) rfl rfl TReply rpZ m (by kernel_rfl) (by kernel_rfl) (by kernel_rfl) ?_);refine Aj (v:=.agg (noC 0 (x:Int))) (Ap rfl _ _ (N+1) TReply _ (0,0) _ rfl (AF _ _ _ _ TReply (0,0) m) Tryz.underlying41 rfl (by kernel_rfl)) rfl ?_;rw[O.out];exact⟨rfl,⟨_,l.out.1.setReply A d a.out.2.2.2.1 m⟩,l.out.2.setRow a.out.2.2.2.1 a.out.2.2.2.2 _⟩
  ·have I:¬(q:Int)=0:=by omega
   obtain rfl:T2=σ.T:=a2.out hw;have O:=qh (show a1D σ (j:Int) f=(σ,q,0) by rw[H.out,Ag HL.out,Ah hw]);have z:=qh (a1G q w2);clear hw J;go_wp2_with fail;refine z.out.mono ?_;rintro e w3 ⟨rfl,hb3⟩;have b:=(hb3.block (N+1) (ltH a9.out.2)).trans a9.out.2;have K:=qh (aI (l.out.1.below (by have:=l.out.2.size;omega) hb3) (l.out.2.trans (Fr.of hb3 (Ad a.out.2.2.1 l.out.2.size))));unfold noC;clear hb3;go_wp2_with (refine Ao rfl TReply (.tmp 4) (.tmp 39) rfl (N+1) (noC (q:Int) 0) rfl rfl TReply rpZ b (by kernel_rfl) (by kernel_rfl) (by kernel_rfl) ?_);refine Aj (v:=.agg (noC (q:Int) 0)) (Ap rfl _ _ (N+1) TReply _ (0,0) _ rfl (AF _ _ _ _ TReply (0,0) b) Tryz.underlying41 rfl (by kernel_rfl)) rfl ?_;rw[O.out];exact⟨rfl,⟨_,K.out.1.setReply A d a.out.2.2.2.1 b⟩,K.out.2.setRow a.out.2.2.2.1 a.out.2.2.2.2 _⟩
 | false=>
  have E:=qh (a6D X.out fd true (a3G σ fd p));have O:=qh (show a1D σ fd f=(σ,26,0) by
   unfold a1D;rw[Ag (by rw[p];simp)])
  have z:=qh (a1G 26 w0);clear p;go_wp2_with fail;refine E.out.mono ?_;rintro e w1 ⟨rfl,rfl⟩;go_wp2_with fail;refine z.out.mono ?_;rintro e w3 ⟨rfl,hb3⟩;have b:=(hb3.block (N+1) (ltH D.out.2)).trans D.out.2;have K:=qh (aI (X.out.below (Ad d a.out.2.1) hb3) ((Fr.of a.out.1 a.out.2.2.1).trans (Fr.of hb3 a.out.2.1)));unfold noC;clear hb3;go_wp2_with (refine Ao rfl TReply (.tmp 4) (.tmp 18) rfl (N+1) (noC 26 0) rfl rfl TReply rpZ b (by kernel_rfl) (by kernel_rfl) (by kernel_rfl) ?_);refine Aj (v:=.agg (noC 26 0)) (Ap rfl _ _ (N+1) TReply _ (0,0) _ rfl (AF _ _ _ _ TReply (0,0) b) Tryz.underlying41 rfl (by kernel_rfl)) rfl ?_;rw[O.out];exact⟨rfl,⟨fp,K.out.1.setReply A d a.out.2.2.2.1 b⟩,K.out.2.setRow a.out.2.2.2.1 a.out.2.2.2.2 _⟩
end
section
open Go.RowKit Go.ChangeMaps Go.MapKept
set_option linter.unusedVariables false
variable {w w' : World} {L B C s t sn c : Nat} {fp : Nat → Option Nat} {σ : StM}
theorem b1n(h:StIn w L B C s t sn fp σ)(D:TrOk c σ.T)(l:∀i o,i<8->σ.fds i=some o->o.id<=1000000)(f:L<=B)(d:C<=B)(A:B<=w.heap.size)(z:Glob w)(p x:List UInt8)(y:p.length<=1000000)(G:x.length<=1000000)
  (fd b n:Int) (til:Nat) (q:Int) (j:Option Addr) (k g:Nat) (a:List UInt8) (H:Bs w j k g a):
  Calls Tryz.prog 37 #[.pointer (some ⟨s,0,none⟩),.agg (a0b 5 (a0c p) (a0c x) fd b n til q j k g)] w fun e w'=>e= .returned (.agg (noC (a1D σ fd a).2.1 (a1D σ fd a).2.2))/\(∃r,StIn w' L B C s t sn r (a1D σ fd a).1)/\Fr B w w':=
 (b6B h d A z p x y G fd b n til q j k g a H (YX L B C s t sn (a1D σ fd a).1 (noC (a1D σ fd a).2.1 (a1D σ fd a).2.2)) (fun _ F u m=>(b2E F D l f d u 5 (a0c p) (a0c x) fd b n til q j k g a m).mono fun _ _ ⟨v,E,h3⟩=>⟨_,_,none,0,0,none,0,0,a0z,v,⟨rfl,E⟩,h3⟩)).mono fun _ _ h=>h.exact f d
end
section
open Go.RowKit Go.ChangeMaps Go.MapKept
structure SGd (c:Nat) (σ:StM):Prop where
 tr:TGd c σ.T
 fd:∀i o,i<8->σ.fds i=some o->o.id<=1000000/\o.b.length<=4096
 sn:SnGd c σ.S
 now:σ.now<=MTn
theorem SGd.mono{c a:Nat}{σ:StM}(h:SGd c σ)(b:c<=a):SGd a σ:=⟨h.tr.mono b,h.fd,h.sn.mono b,h.now⟩
def SErr(w:World)(L B s c:Nat)(e:Ending)(w':World):Prop:=∃(b:Nat) (a:StM),e= .returned (.int .i64 (b:Int))/\StAt w' L L w'.heap.size s a/\SGd (c+1) a/\Fr B w w'
def SRep(w:World)(L B s c:Nat)(e:Ending)(w':World):Prop:=∃(a:StM) (er:Nat) (f:Int) (i:Option Addr) (d h:Nat) (g:Option Addr) (b j:Nat) (nd:Nd),e= .returned (.agg (rpC (er:Int) f (.slice i d h) (.slice g b j) nd))/\(er≠0->f=0/\d=0/\b=0)/\StAt w' L L w'.heap.size s a/\SGd (c+1) a/\Fr B w w'
theorem a7P{f:Nat->Option Opn}{k:Nat}{o:Option Opn}(h:∀i o,i<8->f i=some o->o.id<=1000000/\o.b.length<=4096)(c:∀x,o=some x->x.id<=1000000/\x.b.length<=4096):∀i x,i<8->a7Q f k o i=some x->x.id<=1000000/\x.b.length<=4096:=fun i x d a=>by
 unfold a7Q at a;split at a
 ·exact c x a
 ·exact h i x d a
theorem b56{c:Nat}{T:Tr}(h:TrOk c T)(p:List (List UInt8))(a:Nat):(a3D c T p a).1<=c+1:=by
 have b:=(a3k h (c+1) 1 (by omega) (by omega)).2.2;unfold a3D;repeat' split
 all_goals simp
 exact b
variable {c : Nat} {σ : StM}
theorem a5l(b:SGd c σ)(d:c<=60000)(p:List (List UInt8)):SGd (c+1) (a1n c σ p).1/\((a1n c σ p).2.1≠0->(a1n c σ p).2.2=0):=by
 have a:=b.mono (As c);unfold a1n;split
 ·exact⟨a,fun _=>rfl⟩
 ·split
  ·exact⟨a,fun _=>rfl⟩
  ·exact⟨⟨b.tr.make p 1 (.inl rfl) d,a7P b.fd (fun x e=>by injection e with e;rw[<-e];exact⟨Ad (b56 b.tr.1 p 1) (by omega),AH _⟩),a.sn,a.now⟩,fun e=>absurd rfl e⟩
theorem a9y(b:SGd c σ)(n:Int)(u:Nat):SGd (c+1) (a2v σ n u).1:=by
 have a:=b.mono (As c);unfold a2v;split
 ·split
  ·exact a
  ·split
   ·exact a
   ·exact⟨a.tr.sealed _ u,a7P b.fd (fun x e=>by cases e),a.sn,a.now⟩
 ·split
  ·exact⟨a.tr,a7P b.fd (fun x e=>by cases e),a.sn,a.now⟩
  ·exact a
theorem a5S(d:SGd c σ)(n:Int)(b:List UInt8):SGd (c+1) (a1D σ n b).1/\((a1D σ n b).2.1≠0->(a1D σ n b).2.2=0):=by
 have a:=d.mono (As c);unfold a1D;split
 ·split
  ·exact⟨a,fun _=>rfl⟩
  ·split
   ·exact⟨a,fun _=>rfl⟩
   ·split
    ·exact⟨a,fun _=>rfl⟩
    ·exact⟨⟨a.tr.appd _ _,a.fd,a.sn,a.now⟩,fun e=>absurd rfl e⟩
 ·exact⟨a,fun _=>rfl⟩
theorem b6c(b:SGd c σ)(p:List (List UInt8))(u:Nat):SGd (c+1) (a9f σ p u).1:=by
 have a:=b.mono (As c);unfold a9f;split
 ·exact a
 ·split
  ·exact a
  ·exact⟨a.tr.kept _ u,a.fd,a.sn,a.now⟩
end
end Go.Proofs.YtbemfdcjieakdaaGreatDoor
