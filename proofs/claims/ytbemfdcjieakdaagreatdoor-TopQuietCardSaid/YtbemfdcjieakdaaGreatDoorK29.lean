/- Worm; StKeep; StUnl; SnGet; SnLive; TreeList. -/
import Derived.Test.YtbemfdcjieakdaaGreatDoorK21
import Derived.Test.YtbemfdcjieakdaaGreatDoorK28
set_option maxRecDepth 100000
set_option maxHeartbeats 8000000
namespace Go.Proofs.YtbemfdcjieakdaaGreatDoor
section
open Go.RowKit
def a1R(k:Int):Nat:=if k=1 then 0 else if k=2 then 22 else 30
def wormKeep(nd:Nd)(u:Nat):Nat:=if a1R nd.kind≠0 then a1R nd.kind else if nd.closed=false then 25 else if u<nd.til then 28 else if MTn<u then 1 else 0
def wormRemove(nd:Nd)(a:Nat):Nat:=if a1R nd.kind=0/\nd.closed=true/\nd.links<=1/\a<nd.til then 28 else a1R nd.kind
theorem b1b(nd:Nd)(w:World):Calls Tryz.prog 237 #[.agg nd.cells] w fun e w'=>e= .returned (.int .i64 (a1R nd.kind:Int))/\Below w.heap.size w w':=by
 have a:=qh ((Ab w.heap.size w).alloc (Aa _) (.cells nd.cells 39));unfold Nd.cells at *;by_cases b:nd.kind=1
 ·rw[b];rw[b] at a;go_enter Tryz.func237,Tryz.ntmps237;go_wp2_with fail;go_ret;exact⟨rfl,a.out⟩
 ·by_cases c:nd.kind=2
  ·rw[c];rw[c] at a;go_enter Tryz.func237,Tryz.ntmps237;go_wp2_with fail;go_ret;exact⟨rfl,a.out⟩
  ·have hk:a1R nd.kind=30:=by unfold a1R;rw[Ag b,Ag c]
   rw[hk];go_enter Tryz.func237,Tryz.ntmps237;go_wp2_with fail;go_ret;exact⟨rfl,a.out⟩
theorem a6e(u:Nat)(w:World):Calls Tryz.prog 174 #[.int .u64 (u:Int)] w fun e w'=>e= .returned (.bool (decide (u<=MTn)))/\w=w':=by
 go_enter Tryz.func174,Tryz.ntmps174;go_wp2_with fail;go_ret;exact⟨a2A (by rw[Bl];unfold MTn;simp;omega),rfl⟩
theorem b4k(a u:Nat)(w:World):Calls Tryz.prog 238 #[.int .u64 (a:Int),.int .u64 (u:Int)] w fun e w'=>e= .returned (.bool (decide (u<=a)))/\w=w':=by
 go_enter Tryz.func238,Tryz.ntmps238;go_wp2_with fail;go_ret;exact⟨a2A (by first | rfl | (rw[Bl];simp;done)),rfl⟩
theorem b2J(nd:Nd)(u:Nat)(w:World):Calls Tryz.prog 169 #[.agg nd.cells,.int .u64 (u:Int)] w fun e w'=>e= .returned (.int .i64 (wormKeep nd u:Int))/\Below w.heap.size w w':=by
 obtain⟨w0,g⟩:=qnm (w.alloc (.cells nd.cells 39));have hb0:=qba g;have a:w0.heap[w.heap.size]? =some (.cells nd.cells 39 (0,0)):=by rw[g];exact Ae w _
 have v:=qh (b1b nd w0);have n:w.heap.size<w0.heap.size:=by rw[g];simp
 have E:w0.cell? ⟨w.heap.size,0,none⟩=some (.int .i64 nd.id):=a0a a 0;have D:w0.cell? ⟨w.heap.size,1,none⟩=some (.int .i64 nd.kind):=a0a a 1;have C:w0.cell? ⟨w.heap.size,2,none⟩=some (.int .i64 nd.links):=a0a a 2;have B:w0.cell? ⟨w.heap.size,3,none⟩=some (.int .i64 nd.size):=a0a a 3;have t:w0.cell? ⟨w.heap.size,4,none⟩=some (.int .u64 (nd.til:Int)):=a0a a 4;have q:w0.cell? ⟨w.heap.size,5,none⟩=some (.bool nd.closed):=a0a a 5;have i:=qh g;have A:=qh a;have d:=qh (aI hb0 n);have o:wormKeep nd u=if a1R nd.kind≠0 then a1R nd.kind else if nd.closed=false then 25 else if u<nd.til then 28 else if MTn<u then 1 else 0:=rfl
 have b:=qh o;generalize wormKeep nd u=r at *;generalize a1R nd.kind=k at *;obtain⟨G,j⟩:=qnm nd.closed;obtain⟨y,m⟩:=qnm nd.til;rw[<-j] at q b;rw[<-m] at t b;unfold Nd.cells at v i⊢;rw[<-j,<-m] at v i⊢;clear g a hb0 n o j m;go_enter Tryz.func169,Tryz.ntmps169;go_upto_region 1 with fail
 rw[<-i.out];obtain⟨N,x⟩:=qnm w.heap.size;rw[<-x] at E D C B t q d⊢;have I:=qh x;clear x i A;go_wp2_with fail;refine v.out.mono ?_;rintro e F ⟨rfl,hb1⟩;have t:=(hb1.cell (p:=⟨N,4,none⟩) d.out.2).trans t;have q:=(hb1.cell (p:=⟨N,5,none⟩) d.out.2).trans q;have f:=qh (show Below w.heap.size w F by rw[<-I.out];exact d.out.1.trans (hb1.mono (Bt d.out.2)));clear hb1 E D C B;by_cases hk:k=0
 ·subst hk;cases G with
  | false=>
   go_wp2_with fail;go_ret;exact⟨by rw[b.out];rfl,f.out⟩
  | true=>
   by_cases c:u<y
   ·have z:(u:Int)<(y:Int):=by omega
    have l:=qh (show r=28 by rw[b.out,Ag (by simp),Ag (by simp),Ah c]);clear c;go_wp2_with fail;go_ret;exact⟨by rw[l.out];rfl,f.out⟩
   ·have z:¬(u:Int)<(y:Int):=by omega
    have h:=qh (a6e u F);by_cases s:MTn<u
    ·have l:=qh (show r=1 by rw[b.out,Ag (by simp),Ag (by simp),Ag c,Ah s]);rw[Aq (by omega)] at h;clear c s;go_wp2_with fail;refine h.out.mono ?_;rintro e w2 ⟨rfl,rfl⟩;go_wp2_with fail;go_ret;exact⟨by rw[l.out];rfl,f.out⟩
    ·have l:=qh (show r=0 by rw[b.out,Ag (by simp),Ag (by simp),Ag c,Ag s]);rw[AB (by omega)] at h;clear c s;go_wp2_with fail;refine h.out.mono ?_;rintro e w2 ⟨rfl,rfl⟩;go_wp2_with fail;go_ret;exact⟨by rw[l.out];rfl,f.out⟩
 ·have H:¬(k:Int)=0:=by omega
  have l:=qh (show r=k by rw[b.out,Ah hk]);clear hk;go_wp2_with fail;go_ret;exact⟨by rw[l.out];rfl,f.out⟩
theorem a5T(nd:Nd)(b:Nat)(w:World):Calls Tryz.prog 164 #[.agg nd.cells,.int .u64 (b:Int)] w fun e w'=>e= .returned (.int .i64 (wormRemove nd b:Int))/\Below w.heap.size w w':=by
 obtain⟨w0,g⟩:=qnm (w.alloc (.cells nd.cells 39));have hb0:=qba g;have c:w0.heap[w.heap.size]? =some (.cells nd.cells 39 (0,0)):=by rw[g];exact Ae w _
 have y:=qh (b1b nd w0);have o:w.heap.size<w0.heap.size:=by rw[g];simp
 have C:w0.cell? ⟨w.heap.size,0,none⟩=some (.int .i64 nd.id):=a0a c 0;have B:w0.cell? ⟨w.heap.size,1,none⟩=some (.int .i64 nd.kind):=a0a c 1;have t:w0.cell? ⟨w.heap.size,2,none⟩=some (.int .i64 nd.links):=a0a c 2;have A:w0.cell? ⟨w.heap.size,3,none⟩=some (.int .i64 nd.size):=a0a c 3;have v:w0.cell? ⟨w.heap.size,4,none⟩=some (.int .u64 (nd.til:Int)):=a0a c 4;have s:w0.cell? ⟨w.heap.size,5,none⟩=some (.bool nd.closed):=a0a c 5;have j:=qh g;have d:=qh (aI hb0 o);have q:wormRemove nd b=if a1R nd.kind=0/\nd.closed=true/\nd.links<=1/\b<nd.til then 28 else a1R nd.kind:=rfl
 have a:=qh q;generalize wormRemove nd b=r at *;generalize a1R nd.kind=k at *;obtain⟨G,l⟩:=qnm nd.closed;obtain⟨D,m⟩:=qnm nd.til;obtain⟨I,n⟩:=qnm nd.links;rw[<-l] at s a;rw[<-m] at v a;rw[<-n] at t a;unfold Nd.cells at y j⊢;rw[<-l,<-m,<-n] at y j⊢;clear g c hb0 o q l m n;go_enter Tryz.func164,Tryz.ntmps164;go_upto_region 1 with fail
 rw[<-j.out];obtain⟨N,z⟩:=qnm w.heap.size;rw[<-z] at C B t A v s d⊢;have J:=qh z;clear z j;go_wp2_with fail;refine y.out.mono ?_;rintro e E ⟨rfl,hb1⟩;have t:=(hb1.cell (p:=⟨N,2,none⟩) d.out.2).trans t;have v:=(hb1.cell (p:=⟨N,4,none⟩) d.out.2).trans v;have s:=(hb1.cell (p:=⟨N,5,none⟩) d.out.2).trans s;have f:=qh (show Below w.heap.size w E by rw[<-J.out];exact d.out.1.trans (hb1.mono (Bt d.out.2)));clear hb1 C B A;have u:=qh (b4k b D E);by_cases hk:k=0
 ·subst hk;cases G with
  | false=>
   have i:=qh (show r=0 by rw[a.out,Ag (by simp)]);go_wp2_with fail;go_ret;exact⟨by rw[i.out];rfl,f.out⟩
  | true=>
   by_cases F:I<=1
   ·by_cases x:b<D
    ·have i:=qh (show r=28 by rw[a.out,Ah ⟨rfl,rfl,F,x⟩]);rw[Aq (by omega)] at u;clear x;go_wp2_with fail;refine u.out.mono ?_;rintro e w2 ⟨rfl,rfl⟩;go_wp2_with fail;go_ret;exact⟨by rw[i.out];rfl,f.out⟩
    ·have i:=qh (show r=0 by rw[a.out,Ag (by simp;omega)]);rw[AB (by omega)] at u;clear x;go_wp2_with fail;refine u.out.mono ?_;rintro e w2 ⟨rfl,rfl⟩;go_wp2_with fail;go_ret;exact⟨by rw[i.out];rfl,f.out⟩
   ·have i:=qh (show r=0 by rw[a.out,Ag (by simp;omega)]);go_wp2_with fail;go_ret;exact⟨by rw[i.out];rfl,f.out⟩
 ·have H:¬(k:Int)=0:=by omega
  have i:=qh (show r=k by rw[a.out,Ag (fun h=>hk h.1)]);clear hk;go_wp2_with fail;go_ret;exact⟨by rw[i.out];rfl,f.out⟩
end
section
open Go.RowKit Go.ChangeMaps Go.MapKept
variable {w w' : World} {L B C s t sn c : Nat} {fp : Nat → Option Nat} {σ : StM}
def a9f(σ:StM)(p:List (List UInt8))(u:Nat):StM×Nat:=
 if(a1u σ.T p).2≠0 then(σ,(a1u σ.T p).2)
 else if wormKeep (a1u σ.T p).1 u≠0 then(σ,wormKeep (a1u σ.T p).1 u)
 else(⟨(a3z σ.T (a2d σ.T p).1 u).2,σ.S,σ.now,σ.fds⟩,(a3z σ.T (a2d σ.T p).1 u).1)
theorem b5R{c:Nat}{T:Tr}(b:TrOk c T)(p:List (List UInt8))(h:(a1u T p).2=0):∃x,getK (a2d T p).1 T=some x/\(a1u T p).1=x.n/\(a2d T p).2=0:=by
 unfold a1u at h⊢;by_cases a:(a2d T p).2≠0
 ·rw[Ah a] at h;exact absurd h a
 ·obtain⟨x,d⟩:=a4R b p (by omega);rw[Ag a,d];exact⟨x,rfl,rfl,by omega⟩
theorem b1H(h:StIn w L B C s t sn fp σ)(V:TrOk c σ.T)(hc:c<=60000)(g:C<=B)(hB:B<=w.heap.size)(a:Option Addr)(n cap:Nat)(p:List (List UInt8))(hS:Ss w a n cap p)(hm:∀s∈p,s.length<=1000000)(u:Nat):
  Calls Tryz.prog 91 #[.pointer (some ⟨s,0,none⟩),.slice a n cap,.int .u64 (u:Int)] w fun e w'=>e= .returned (.int .i64 ((a9f σ p u).2:Int))/\(∃Z,StIn w' L B C s t sn Z (a9f σ p u).1)/\Fr B w w':=by
 have v:=qh (a49 h V hc (Ad g hB) a n cap p hS hm);have M:=b5R V p;have I:a9f σ p u=if (a1u σ.T p).2≠0 then(σ,(a1u σ.T p).2) else if wormKeep (a1u σ.T p).1 u≠0 then(σ,wormKeep (a1u σ.T p).1 u) else(⟨(a3z σ.T (a2d σ.T p).1 u).2,σ.S,σ.now,σ.fds⟩,(a3z σ.T (a2d σ.T p).1 u).1):=rfl
 generalize a1u σ.T p=nd at *;generalize(a2d σ.T p).1=i at *;have j:=qh (aI I M);have f:=qh (aI h (aI V hB));obtain⟨nd,y⟩:=nd;simp only at v j;have Q:=qh (fun w=>b2J nd u w);clear h V hS hm I M;unfold Nd.cells at v Q;go_enter Tryz.func91,Tryz.ntmps91;go_wp2_with fail;refine v.out.mono ?_;rintro e H ⟨rfl,hb1⟩;have O:=(Ab H.heap.size H).alloc (Aa _) (.cells #[.int .i64 nd.id,.int .i64 nd.kind,.int .i64 nd.links,.int .i64 nd.size,.int .u64 (nd.til:Int),.bool nd.closed] a2H);have hb2:=hb1.trans (O.mono hb1.size);have b:=Ae H (.cells #[.int .i64 nd.id,.int .i64 nd.kind,.int .i64 nd.links,.int .i64 nd.size,.int .u64 (nd.til:Int),.bool nd.closed] a2H);obtain⟨w2,o⟩:=qnm (H.alloc (.cells #[.int .i64 nd.id,.int .i64 nd.kind,.int .i64 nd.links,.int .i64 nd.size,.int .u64 (nd.til:Int),.bool nd.closed] a2H));rw[<-o] at hb2 b;have U:=qh o;have d:=qh (aI hb2 (aI b (show H.heap.size<w2.heap.size by rw[o];simp)));clear O hb1 hb2 b o;go_upto_region 2 with fail
 rw[<-U.out];obtain⟨N,hN⟩:=qnm H.heap.size;rw[<-hN] at d⊢;clear hN U;obtain⟨hb2,b,a0⟩:=d.out;have n0:w2.cell? ⟨N,0,none⟩=some (.int .i64 nd.id):=a0a b 0;have n1:w2.cell? ⟨N,1,none⟩=some (.int .i64 nd.kind):=a0a b 1;have n2:w2.cell? ⟨N,2,none⟩=some (.int .i64 nd.links):=a0a b 2;have n3:w2.cell? ⟨N,3,none⟩=some (.int .i64 nd.size):=a0a b 3;have n4:w2.cell? ⟨N,4,none⟩=some (.int .u64 (nd.til:Int)):=a0a b 4;have n5:w2.cell? ⟨N,5,none⟩=some (.bool nd.closed):=a0a b 5;clear hb2 b a0;by_cases hw:y=0
 ·subst hw;obtain⟨x,hx,R,_⟩:=j.out.2 rfl;have z:=qh (aI hx R);clear hx R;go_wp2_with fail;refine(Q.out w2).mono ?_;rintro e w3 ⟨rfl,hb3⟩;have r:=d.out.1.trans (hb3.mono d.out.1.size);have X:=(hb3.cell (p:=⟨N,0,none⟩) d.out.2.2).trans n0;obtain⟨k,hk⟩:=qnm (wormKeep nd u);rw[<-hk];have Y:=qh hk;have l:=qh r;clear hb3 r n0 n1 n2 n3 n4 n5 hk;by_cases A:k=0
  ·subst A;have hid:nd.id=(i:Int):=by rw[z.out.2];exact(f.out.2.1.nd i x z.out.1).2.1
   have hi:=(f.out.2.1.nd i x z.out.1).1;rw[hid] at X;have m:=f.out.1.below (Ad g f.out.2.2) l.out;have c0:w3.cell? ⟨s,0,none⟩=some (.pointer (some ⟨t,0,none⟩)):=a0a m.cel 0;obtain⟨mb,F,G,hT⟩:=m.tree;have W:=qh (b20 (hT.below (Ab _ w3).drew) f.out.2.1 i u (by omega));have D:B<=w3.heap.size:=Ad f.out.2.2 l.out.size;have q:=qh (aI (m.below (Ad g D) (Ab _ w3).drew) D);have K:=qh (show a9f σ p u=(⟨(a3z σ.T i u).2,σ.S,σ.now,σ.fds⟩,(a3z σ.T i u).1) by rw[j.out.1,Ag (by simp),Ag (by rw[<-Y.out];simp)]);clear m hT hid hi D;go_upto_region 6 with fail
   refine a0K 7 (by kernel_rfl) (by kernel_rfl) rfl ?_;simp only[qtc,a3E];repeat still_step
   refine AK ?_;go_wp2_with fail;refine W.out.mono ?_;rintro e w4 ⟨rfl,J,E⟩;have P:StIn w4 L B C s t sn fp ⟨(a3z σ.T i u).2,σ.S,σ.now,σ.fds⟩:=q.out.1.setTree g q.out.2 E ⟨_,_,_,J⟩;have hb4:Fr B w w4:=((Fr.of l.out f.out.2.2).trans (Fr.of (Ab _ w3).drew q.out.2)).trans (Fr.tchg E q.out.2);have HF:=qh (aI P hb4);clear J E P hb4;go_wp2_with fail;go_ret;rw[K.out];exact⟨rfl,⟨fp,HF.out.1⟩,HF.out.2⟩
  ·have a1:¬(k:Int)=0:=by omega
   have K:=qh (show a9f σ p u=(σ,k) by rw[j.out.1,Ag (by simp),Ah (by rw[<-Y.out];exact A),<-Y.out]);clear A;go_wp2_with fail;go_ret;rw[K.out];exact⟨rfl,⟨fp,f.out.1.below (Ad g f.out.2.2) l.out⟩,Fr.of l.out f.out.2.2⟩
 ·have a2:¬(y:Int)=0:=by omega
  have K:=qh (show a9f σ p u=(σ,y) by rw[j.out.1,Ah hw]);clear hw;go_wp2_with fail;go_ret;rw[K.out];exact⟨rfl,⟨fp,f.out.1.below (Ad g f.out.2.2) d.out.1⟩,Fr.of d.out.1 f.out.2.2⟩
end
section
open Go.RowKit Go.ChangeMaps Go.MapKept
variable {w w' : World} {L B C s t sn c : Nat} {fp : Nat → Option Nat} {σ : StM}
def unlWhy(σ:StM)(p:List (List UInt8)):Nat:=if (a1u σ.T p).2≠0 then(a1u σ.T p).2 else wormRemove (a1u σ.T p).1 σ.now
theorem a8H(h:StIn w L B C s t sn fp σ)(F:TrOk c σ.T)(U:c<=60000)(q:C<=B)(D:B<=w.heap.size)(a:Option Addr)(n cap:Nat)(p:List (List UInt8))(G:Ss w a n cap p)(z:∀s∈p,s.length<=1000000)(A:unlWhy σ p≠0):
  Calls Tryz.prog 87 #[.pointer (some ⟨s,0,none⟩),.slice a n cap] w fun e w'=>e= .returned (.int .i64 (unlWhy σ p:Int))/\Below w.heap.size w w':=by
 have g:=qh (a49 h F U (Ad q D) a n cap p G z);have k:unlWhy σ p=if (a1u σ.T p).2≠0 then(a1u σ.T p).2 else wormRemove (a1u σ.T p).1 σ.now:=rfl
 generalize a1u σ.T p=nd at *;have d:=qh (aI k A);have H:=qh (aI h D);obtain⟨nd,i⟩:=nd;simp only at g d;have m:=qh (fun w=>a5T nd σ.now w);clear h F G z k A;unfold Nd.cells at g m;go_enter Tryz.func87,Tryz.ntmps87;go_wp2_with fail;refine g.out.mono ?_;rintro e r ⟨rfl,hb1⟩;have l:=(Ab r.heap.size r).alloc (Aa _) (.cells #[.int .i64 nd.id,.int .i64 nd.kind,.int .i64 nd.links,.int .i64 nd.size,.int .u64 (nd.til:Int),.bool nd.closed] a2H);have hb2:=hb1.trans (l.mono hb1.size);have b:=Ae r (.cells #[.int .i64 nd.id,.int .i64 nd.kind,.int .i64 nd.links,.int .i64 nd.size,.int .u64 (nd.til:Int),.bool nd.closed] a2H);obtain⟨w2,j⟩:=qnm (r.alloc (.cells #[.int .i64 nd.id,.int .i64 nd.kind,.int .i64 nd.links,.int .i64 nd.size,.int .u64 (nd.til:Int),.bool nd.closed] a2H));rw[<-j] at hb2 b;have o:=qh j;have f:=qh hb2;have u:=qh b;clear l hb1 hb2 b j;go_upto_region 2 with fail
 rw[<-o.out];obtain⟨N,E⟩:=qnm r.heap.size;rw[<-E] at u⊢;clear E o;have b:=u.out;have O:w2.cell? ⟨N,0,none⟩=some (.int .i64 nd.id):=a0a b 0;have M:w2.cell? ⟨N,1,none⟩=some (.int .i64 nd.kind):=a0a b 1;have K:w2.cell? ⟨N,2,none⟩=some (.int .i64 nd.links):=a0a b 2;have J:w2.cell? ⟨N,3,none⟩=some (.int .i64 nd.size):=a0a b 3;have R:w2.cell? ⟨N,4,none⟩=some (.int .u64 (nd.til:Int)):=a0a b 4;have I:w2.cell? ⟨N,5,none⟩=some (.bool nd.closed):=a0a b 5;have S:w2.cell? ⟨s,2,none⟩=some (.int .u64 (σ.now:Int)):=a0a (H.out.1.below (Ad q H.out.2) f.out).cel 2;clear b;by_cases x:i=0
 ·subst x;have v:=qh (show unlWhy σ p=wormRemove nd σ.now by rw[d.out.1,Ag (by simp)]);have P:¬(unlWhy σ p:Int)=0:=by have:=d.out.2;omega
  go_upto_region 3 with fail
  refine a0K 5 (by kernel_rfl) (by kernel_rfl) rfl ?_;simp only[qtc,a3E];repeat still_step
  refine AK ?_;go_wp2_with fail;refine(m.out w2.drew).mono ?_;rintro e V ⟨rfl,hb3⟩;rw[<-v.out];have y:=qh (f.out.trans (((Ab _ w2).drew.trans hb3).mono f.out.size));clear hb3 O M K J R I S;go_wp2_with fail;go_ret;exact⟨rfl,y.out⟩
 ·have Q:¬(i:Int)=0:=by omega
  have v:=qh (show unlWhy σ p=i by rw[d.out.1,Ah x]);clear x;go_wp2_with fail;go_ret;rw[v.out];exact⟨rfl,f.out⟩
end
section
open Go.RowKit Go.ChangeMaps Go.MapKept
abbrev Sq:Type:=Nat×(Option Addr×Nat×Nat)×Nat
def sqC(x:Sq):List Value:=[.int .i64 (x.1:Int),.slice x.2.1.1 x.2.1.2.1 x.2.1.2.2,.pointer (some ⟨x.2.2,0,none⟩)]
theorem b4g(id:Int)(q:Nat)(w:World)(d:q<w.heap.size)(e:w.cell? ⟨q,0,none⟩=some (.int .i64 id)):
  PredBelow Tryz.prog 241 #[.pointer (some ⟨q,0,none⟩)] (fun x=>.agg (sqC x).toArray) (fun x=>(x.1:Int) == id) w:=fun W x b=>by
 have g:W.cell? ⟨q,0,none⟩=some (.int .i64 id):=(b.cell (p:=⟨q,0,none⟩) d).trans e;have h:q<W.heap.size:=Ai d b.size;have f:q≠W.heap.size:=by omega
 obtain⟨i,⟨a,n,c⟩,t⟩:=x;have HB:=qh (b.alloc b.size (.cells #[.int .i64 (i:Int),.slice a n c,.pointer (some ⟨t,0,none⟩)] a3d));show Calls Tryz.prog 241 #[.agg #[.int .i64 (i:Int),.slice a n c,.pointer (some ⟨t,0,none⟩)],.pointer (some ⟨q,0,none⟩)] W _;clear b d e;go_enter Tryz.func241,Tryz.ntmps241;go_wp2_with fail;go_ret;exact⟨rfl,HB.out⟩
theorem a7z{a:Type}(p:a->Bool)(d:a):∀(l:List a) (i:Nat),Lib.idxByFrom (fun _ y=>p y) d l i= -1∨∃k,k<l.length/\Lib.idxByFrom (fun _ y=>p y) d l i=((i+k:Nat):Int)
 | [],_=>.inl rfl
 | y :: r,i=>by
  by_cases h:p y=true
  ·exact .inr ⟨0,by simp,by simp[Lib.idxByFrom,h]⟩
  ·rcases a7z p d r (i+1) with e | ⟨k,b,e⟩
   ·exact .inl (by simpa[Lib.idxByFrom,h] using e)
   ·exact .inr ⟨k+1,by simpa using b,by rw[show i+(k+1)=i+1+k by omega];simpa[Lib.idxByFrom,h] using e⟩
theorem b6g(c:Nat)(a:Value)(w:World):
  Calls Tryz.prog 240 #[.slice none 0 c,a] w fun e w'=>e= .returned (.int .i64 (-1))/\w'=w:=by
 go_enter Tryz.func240,Tryz.ntmps240;go_wp2_with fail;go_loopw [5,8] (fun _ b wr=>b= .int .i64 0/\wr=w) (fun _ _ _=>0);case atStart=>exact ⟨rfl,rfl⟩
 case round=>
  obtain⟨rfl,rfl⟩:=hrel;go_wp2_with fail;go_ret;exact⟨rfl,rfl⟩
variable {w w' : World} {L B C sn : Nat} {S : SnS}
def b8d(s:Sn)(h:Value×Nat):Sq:=(s.id,(match h.1 with | .slice a n c=>(a,n,c) | _=>(none,0,0)),h.2)
theorem b8p(s:Sn)(h:Value×Nat)(b:∃a n c,h.1= .slice a n c):sqC (b8d s h)=a0U s h:=by
 obtain⟨v,t⟩:=h;obtain⟨a,n,c,rfl⟩:=b;rfl
theorem b1l(h:SnapsAt w L B C sn S)(id:Int)(hl:S.l.length<=100):
  Calls Tryz.prog 171 #[.pointer (some ⟨sn,0,none⟩),.int .i64 id] w fun e w'=>(∃k:Int,e= .returned (.int .i64 k)/\(k= -1∨0<=k/\k<(S.l.length:Int)))/\Below w.heap.size w w':=by
 obtain⟨_,lv,av,m,E,h2,h3,G,Q⟩:=h;obtain⟨f,d⟩:=qnm (w.alloc (.cells #[.int .i64 id] 3));have hb0:=qba d;have t:f.heap[w.heap.size]? =some (.cells #[.int .i64 id] 3 (0,0)):=by rw[d];exact Ae w _
 have A:f.heap.size=w.heap.size+1:=by rw[d];simp
 have c0:f.cell? ⟨sn,0,none⟩=some lv:=(hb0.cell (p:=⟨sn,0,none⟩) (Array.getElem?_eq_some_iff.1 E).1).trans (a0a E 0);have P:∀args w,(callFunc 241 args).run Tryz.prog w= .ok (.enter 241 args) w:=enters_of Tryz.func241 (by kernel_rfl) rfl
 have q:∀p∈m,∃a n c,p.1= .slice a n c:=fun p W=>by
  obtain⟨i,o,rfl⟩:=Bi W;obtain⟨a,c,e,_⟩:=(Q i (by omega) o).1.bs;exact⟨a,_,c,e⟩
 have O:=b4g id w.heap.size f (by omega) (a0a t 0);have b:∃J N,lv= .slice J S.l.length N/\Calls Tryz.prog 240 #[lv,.func (.func 241) #[] #[.pointer (some ⟨w.heap.size,0,none⟩)]] f fun e w'=>(∃k:Int,e= .returned (.int .i64 k)/\(k= -1∨0<=k/\k<(S.l.length:Int)))/\Below f.heap.size f w':=by
  have I:=G;rcases G.2 with⟨rfl,Z⟩ | ⟨g,cap,U,rfl,h6,K,h8,h9,Y⟩
  ·refine⟨none,0,by rw[Z],?_⟩;refine(b6g 0 _ f).mono ?_;rintro e w' ⟨rfl,rfl⟩;exact⟨⟨-1,rfl,.inl rfl⟩,Ab _ _⟩
  ·refine⟨_,cap,rfl,?_⟩;have H:(List.zipWith b8d S.l m).length=S.l.length:=by rw[List.length_zipWith];omega
   refine(AnyQ.slices_IndexFunc Tryz.idxO 3 Tryz.isAgg245 Tryz.sizeOf245 sqC (fun _=>rfl) (fun x=>(x.1:Int) == id) 241 #[.pointer (some ⟨w.heap.size,0,none⟩)] P g 0 S.l.length cap (List.zipWith b8d S.l m) f O (by omega) (by omega) (by have:=(Array.getElem?_eq_some_iff.1 K).1;omega) (fun j T i v o=>?_)).mono ?_
   ·rw[H] at T;have u:∀x∈List.zipWith a0U S.l m,x.length=3:=fun x R=>by
     rw[<-BK] at R;obtain⟨⟨s,p⟩,_,rfl⟩:=AX.1 R;rfl
    have F:j<(List.zipWith a0U S.l m).length:=by rw[List.length_zipWith];omega
    have V:(List.zipWith b8d S.l m)[j]! =b8d S.l[j] (m[j]'(by omega)):=by rw[getElem!_pos _ _ (by omega),List.getElem_zipWith]
    rw[V,b8p _ _ (q _ (AE _))] at o;have y:i<3:=by
     rcases BE i 3 with h | h
     ·exact h
     ·rw[Bo (by show(a0U _ _).length<=i;exact h)] at o;cases o
    rw[hb0.cell (p:=⟨g,0+j * 3+i,none⟩) (Array.getElem?_eq_some_iff.1 K).1,AD,A1 (size:=3) I (j * 3+i) (by omega),b7N i y _ u j F,List.getElem_zipWith];exact o
   ·rintro e w' ⟨rfl,X⟩;refine⟨⟨_,rfl,?_⟩,X⟩;rcases a7z (fun x:Sq=>(x.1:Int) == id) default ((List.zipWith b8d S.l m).take S.l.length) 0 with e | ⟨k,hk,e⟩
    ·exact .inl e
    ·refine .inr ?_;unfold Lib.idxBy;rw[e];rw[Av] at hk;omega
 obtain⟨J,N,rfl,b⟩:=b;have z:=qh b;have r:=qh hb0;have D:=qh d;clear E h2 h3 G Q b hb0 d A q O P t;go_enter Tryz.func171,Tryz.ntmps171;go_upto_region 1 with fail
 rw[<-D.out];go_wp2_with fail;refine z.out.mono ?_;rintro e w2 ⟨⟨k,rfl,hk⟩,hb2⟩;have M:=qh (aI hk (r.out.trans (hb2.mono r.out.size)));clear hk hb2;go_wp2_with fail;go_ret;exact⟨⟨k,rfl,M.out.1⟩,M.out.2⟩
def b8b(w:World)(L:Nat)(S:SnS)(e:Ending)(w':World):Prop:=
 (e= .returned (.tuple #[.pointer none,.bool false])∨∃a k,∃hk:k<S.l.length,e= .returned (.tuple #[.pointer (some ⟨a,0,none⟩),.bool true])/\TreeAt w' L w.heap.size a S.l[k].T)/\Below w.heap.size w w'
theorem b7L{c:Nat}(h:SnapsAt w L B C sn S)(u:SnGd c S)(Q:c<=60000)(M:L<=w.heap.size)(D:C<=w.heap.size)(id:Int):
  Calls Tryz.prog 235 #[.pointer (some ⟨sn,0,none⟩),.int .i64 id] w fun e w'=>b8b w L S e w':=by
 have i:=qh (b1l h id (by have:=u.len;omega));have r:=qh (aI h (aI u (aI M D)));clear h u D;go_enter Tryz.func235,Tryz.ntmps235;go_wp2_with fail;refine i.out.mono ?_;rintro e W ⟨⟨k,rfl,hk⟩,hb1⟩;clear i;rcases hk with rfl | ⟨O,s⟩
 ·have HB:=qh hb1;clear hb1;go_wp2_with fail;go_ret2;exact⟨.inl rfl,HB.out⟩
 ·obtain⟨j,rfl⟩:∃j:Nat,k=(j:Int):=⟨k.toNat,by omega⟩
  have f:j<S.l.length:=by omega
  obtain⟨R,N,P,z,p,m⟩:=(r.out.1.below r.out.2.2.2 hb1).at;obtain⟨g,rfl,_,V,a⟩:=m (by omega);obtain⟨hv,t,I,E,U,K,o⟩:=a j f;obtain⟨n,x⟩:=qnm S.l.length;rw[<-x] at P z s;have J:N<=9223372036854775807:=Ad p (by unfold maxLen;decide);obtain⟨mb,F,G,o⟩:=o;have b:=(r.out.2.1.one _ (AE f)).1.1;obtain⟨T,d⟩:=qnm (S.l[j].T);rw[<-d] at o b;have y:=qh d;clear d;have v:=qh (a4y o b Q (Ad r.out.2.2.1 hb1.size));have HB:=qh (aI hb1 (aI f x));clear hb1 x K o b m a I E p;go_wp2_with fail;refine v.out.mono ?_;rintro e w2 ⟨H,rfl,q,hb2⟩;have A:=qh (aI (q.weaken HB.out.1.size) (HB.out.1.trans (hb2.mono HB.out.1.size)));clear q hb2;go_wp2_with fail;go_ret2;exact⟨.inr ⟨H,j,HB.out.2.1,rfl,by rw[<-y.out];exact A.out.1⟩,A.out.2⟩
end
section
open Go.RowKit Go.ChangeMaps Go.MapKept
variable {w : World} {L B t mb c : Nat} {F G : Nat → Nat} {T : Tr}
theorem b59(h:TreeIn w L B t mb F G T)(ok:TGd c T)(hc:c<=60000)(z:Nat):
  Calls Tryz.prog 242 #[.pointer (some ⟨t,0,none⟩),.int .u64 (z:Int)] w fun e w'=>(∃a n k,e= .returned (.slice a n k))/\Below w.heap.size w w':=by
 have HI:=qh (a8g h ok.1);have Y:=qh (aI h ok);obtain⟨H,hH⟩:=qnm w.heap.size;have HH:=qh hH;clear h ok hH;go_enter Tryz.func242,Tryz.ntmps242;go_wp2_with fail;refine HI.out.mono ?_;rintro e w2 ⟨v2,rfl,M,hb2⟩;obtain⟨n,hn⟩:=qnm ((T.map (·.1)).length);obtain⟨a2,c2,rfl,a5,P⟩:=M.at hn.symm;have a6:n<=64:=by have:=Y.out.2.1.len;rw[hn,AC];omega
 have U:=qh (aI P hn);have v:=qh hb2;clear M P hn HI;go_wp2_with fail;go_loopw [5,16] (fun a3 k wr=>∃(j:Nat) (l:List Nat),j<=n/\k= .int .i64 (j:Int)/\OwnI wr w2.heap.size a3 l/\l.length<=j/\Ext w2.heap.size w2 wr) (fun _ k _=>n - (intOf k).toNat);case atStart=>exact ⟨0,[],by omega,rfl,OwnI.nil _ _,by simp,Ext.refl _⟩
 case round=>
  obtain⟨j,l,hj,rfl,I,y,r⟩:=hrel;by_cases N:j<n
  ·obtain⟨g,rfl,_,hg,o⟩:=U.out.1 (by omega);have E:j<(T.map (·.1)).length:=by rw[<-U.out.2];exact N
   have c0:=(r.1.cell (p:=⟨g,j,none⟩) hg).trans (o j E);have f:=AE E;generalize(T.map (·.1))[j]=i at c0 f;obtain⟨p,hp,rfl⟩:=AX.1 f;have hx:=a0s Y.out.2.2.uq.1 hp;have hi:p.1<=1000000:=by have:=(Y.out.2.1.nd p.1 p.2 hx).1;omega
   have d:=qh (fun W (hb:Below w.heap.size w W)=>a3H (Y.out.1.below hb) p.1 p.2 hx hi);have a4:=Ai hg r.1.size;obtain⟨i,D⟩:=qnm p.1;obtain⟨nd,R⟩:=qnm p.2.n;rw[<-D,<-R] at d;rw[<-D] at c0;clear D R;have e1:(0:Int)<=(j:Int):=by omega
   have e2:(j:Int)<(n:Int):=by omega
   obtain⟨x,O⟩:=qnm (j+1);have e3:IntKind.i64.wrap ((j:Int)+1)=(x:Int):=by rw[Ak _ (by omega)];omega
   have q:=qh (aI O (aI y (aI r I)));have d:=qh (d.out wr (v.out.trans (r.1.mono v.out.size)));unfold Nd.cells at d;clear o E f hp hx hi O y r hj;go_wp2_with fail;refine d.out.mono ?_;rintro e w3 ⟨rfl,hb3⟩;obtain⟨Q,u⟩:=qnm (w3.alloc (.cells #[.int .i64 nd.id,.int .i64 nd.kind,.int .i64 nd.links,.int .i64 nd.size,.int .u64 (nd.til:Int),.bool nd.closed] 39));have hb4:=qba u;obtain⟨Z,hZ⟩:=qnm w3.heap.size;have s:Q.heap[Z]? =some (.cells #[.int .i64 nd.id,.int .i64 nd.kind,.int .i64 nd.links,.int .i64 nd.size,.int .u64 (nd.til:Int),.bool nd.closed] 39 (0,0)):=by rw[u,hZ];exact Ae _ _
   have n1:Q.cell? ⟨Z,1,none⟩=some (.int .i64 nd.kind):=a0a s 1;have n4:Q.cell? ⟨Z,4,none⟩=some (.int .u64 (nd.til:Int)):=a0a s 4;have n5:Q.cell? ⟨Z,5,none⟩=some (.bool nd.closed):=a0a s 5;have S:=qh (b4k z nd.til Q);have b:=qh (hb3.trans (hb4.mono hb3.size));have C:=qh (aI u hZ);clear hb3 hb4 u hZ s c0 a4 d;go_upto_region 8 with fail
   rw[<-C.out.1,<-C.out.2];clear C;obtain⟨kd,X⟩:=qnm nd.kind;obtain⟨cl,K⟩:=qnm nd.closed;obtain⟨tl,V⟩:=qnm nd.til;rw[<-X] at n1;rw[<-K] at n5;rw[<-V] at n4 S;clear X K V;by_cases A:kd=1;rotate_left
   ·have ek:(kd == 1)=false:=by simpa using A
    clear A;go_wp2_with fail;go_roundw;case rel=>
     obtain⟨h1,h2,h3,J⟩:=q.out;exact⟨x,l,by omega,rfl,J.below b.out,by omega,h3.step b.out⟩
    case measure=>
     have:=q.out.1;show n - (x:Int).toNat<n - (j:Int).toNat;omega
   subst A;cases cl with
   | false=>
    go_wp2_with fail;go_roundw;case rel=>
     obtain⟨h1,h2,h3,J⟩:=q.out;exact⟨x,l,by omega,rfl,J.below b.out,by omega,h3.step b.out⟩
    case measure=>
     have:=q.out.1;show n - (x:Int).toNat<n - (j:Int).toNat;omega
   | true=>
    by_cases hd:tl<=z
    ·rw[AB hd] at S;clear hd;go_wp2_with fail;refine S.out.mono ?_;rintro e w5 ⟨rfl,rfl⟩;go_wp2_with fail;go_roundw;case rel=>
      obtain⟨h1,h2,h3,J⟩:=q.out;exact⟨x,l,by omega,rfl,J.below b.out,by omega,h3.step b.out⟩
     case measure=>
      have:=q.out.1;show n - (x:Int).toNat<n - (j:Int).toNat;omega
    ·rw[Aq hd] at S;clear hd;go_wp2_with fail;refine S.out.mono ?_;rintro e w5 ⟨rfl,rfl⟩;have I:=q.out.2.2.2.below b.out;have r:=q.out.2.2.1.step b.out;go_wp2_with (at_builtin;refine a2V rfl _ _ rfl rfl w2.heap.size _ l rfl I i (by have:=q.out.2.1;omega) r.2 ?_;intro v' w' a1 a0);go_roundw;case rel=>
      obtain⟨h1,h2,h3,J⟩:=q.out;exact⟨x,l ++[i],by omega,rfl,a1,by simp;omega,Ext.grown (r.alloc _) a0 (fun k hk=>I.blk k hk)⟩
     case measure=>
      have:=q.out.1;show n - (x:Int).toNat<n - (j:Int).toNat;omega
  ·obtain rfl:j=n:=by omega
   obtain⟨a,k,rfl,_,_⟩:=I.at (n:=l.length) rfl;obtain⟨m,hm⟩:=qnm l.length;rw[<-hm];have HF:=qh (v.out.trans (r.1.mono v.out.size));clear hm y r I N hj;go_wp2_with fail;go_ret;exact⟨⟨a,m,k,rfl⟩,HF.out⟩
theorem b4M(h:TreeIn w L B t mb F G T)(g:TGd c T)(l:c<=60000)(d:Nat):
  Calls Tryz.prog 172 #[.pointer (some ⟨t,0,none⟩),.int .u64 (d:Int)] w fun e w'=>(∃b,e= .returned (.bool b))/\Below w.heap.size w w':=by
 have j:=qh (b59 h g l d);clear h g;go_enter Tryz.func172,Tryz.ntmps172;go_wp2_with fail;refine j.out.mono ?_;rintro e w2 ⟨⟨a,n,k,rfl⟩,i⟩;have f:=qh i;clear i;go_wp2_with fail;go_ret;exact⟨⟨_,rfl⟩,f.out⟩
end
section
open Go.RowKit Go.ChangeMaps Go.MapKept
variable {w : World} {L B t mb c : Nat} {F G : Nat → Nat} {T : Tr}
def b76(e:Ending):Prop:=∃(a:Option Addr) (n k b:Nat),e= .returned (.tuple #[.slice a n k,.int .i64 (b:Int)])/\(b≠0->a=none/\n=0/\k=0)
theorem b2Y(h:TreeIn w L B t mb F G T)(d:TGd c T)(H:c<=60000)(i:Nat)(x:It)(b:getK i T=some x):
  Calls Tryz.prog 168 #[.pointer (some ⟨t,0,none⟩),.int .i64 (i:Int)] w fun e w'=>b76 e/\Below w.heap.size w w':=by
 have C:=(d.1.nd i x b).1;have A:=h.cell0;have z:=h.hit2 b (by omega);obtain⟨-,v,m,f,-⟩:=h.item i x b;obtain⟨-,l,-⟩:=a0m f;rcases d.1.kind b with hk | hk
 ·rw[hk] at l;clear h b f hk d;go_enter Tryz.func168,Tryz.ntmps168;go_wp2_with fail;go_ret2;exact⟨⟨none,0,0,23,rfl,fun _=>⟨rfl,rfl,rfl⟩⟩,Ab _ _⟩
 ·rw[hk] at l;obtain⟨-,D,o⟩:=h.dir b hk;have u:=qh (a52 (G i) x.names w o (by have:=(d.1.nd i x b).2.2.2.2;omega));have HB:=qh ((Ab w.heap.size w).alloc (Aa _) (.cells #[.map (some (G i))] 231));clear h b f hk d o;go_enter Tryz.func168,Tryz.ntmps168;go_wp2_with fail;refine(a8L (some (G i)) w).mono ?_;rintro e E ⟨rfl,rfl⟩;go_wp2_with fail;refine u.out.mono ?_;rintro e w2 ⟨y,rfl,p,j⟩;obtain⟨q,r,s,rfl⟩:∃a n k,y= .slice a n k:=by
   exact a1s p
  have g:=qh j;clear p j;go_wp2_with fail;go_ret2;exact⟨⟨q,r,s,0,rfl,fun h=>absurd rfl h⟩,g.out⟩
def a4Z(w:World)(m:Nat)(e:Ending)(w':World):Prop:=∃(v:Value) (a:Nat) (ys:List UInt8),e= .returned (.tuple #[v,.int .i64 (a:Int)])/\Own w' w.heap.size v ys/\ys.length<=m/\(a≠0->v= .slice none 0 0)
theorem a8I(w:World)(a:Option Addr)(len cap:Nat)(xs:List UInt8)(i:Bs w a len cap xs)(B:len<=100000)(b n:Int):
  Calls Tryz.prog 159 #[.slice a len cap,.int .i64 b,.int .i64 n] w fun e w'=>a4Z w len e w'/\Below w.heap.size w w':=by
 by_cases c:b<0∨n<0
 ·have j:=qh (show a4Z w len (.returned (.tuple #[.slice none 0 0,.int .i64 ((1:Nat):Int)])) w from⟨_,1,[],rfl,Own.nil _ _,AH _,fun _=>rfl⟩);clear i;by_cases t:b<0
  ·clear c;go_enter Tryz.func159,Tryz.ntmps159;go_wp2_with fail;go_ret2;exact⟨j.out,Ab _ _⟩
  ·have A:n<0:=by omega
   clear c;go_enter Tryz.func159,Tryz.ntmps159;go_wp2_with fail;go_ret2;exact⟨j.out,Ab _ _⟩
 ·have t:¬b<0:=by omega
  have A:¬n<0:=by omega
  obtain⟨k,hk⟩:∃k:Nat,(k:Int)=min b (len:Int):=⟨(min b (len:Int)).toNat,by omega⟩
  have f:k<=len:=by omega
  obtain⟨m,o⟩:∃m:Nat,(m:Int)=min n ((len - k:Nat):Int):=⟨(min n ((len - k:Nat):Int)).toNat,by omega⟩
  have g:m<=len - k:=by omega
  have q:=i.2.1;have d:=i.drop f;obtain⟨ad,l⟩:∃ad,(if cap=k then a else a.map (·.add k))=ad:=⟨_,rfl⟩
  rw[l] at d;have y:=qh (a0V ad m (cap - k) _ w (d.take g) (by unfold big;omega));have z:=qh (show((xs.drop k).take m).length<=len by simp;have:=i.1;omega);have u:=hk.symm;have x:=o.symm;clear hk o d i f g c;go_enter Tryz.func159,Tryz.ntmps159;go_wp2_with fail;refine y.out.mono ?_;rintro e r ⟨v,rfl,s,p⟩;have j:=qh (show a4Z w len (.returned (.tuple #[v,.int .i64 ((0:Nat):Int)])) r/\Below w.heap.size w r from⟨⟨v,0,_,rfl,s,z.out,fun h=>absurd rfl h⟩,p⟩);clear s p;go_wp2_with fail;go_ret2;exact j.out
theorem b1C(h:TreeIn w L B t mb F G T)(g:TGd c T)(i:Nat)(x:It)(f:getK i T=some x)(hk:x.n.kind=1)(A:i<=1000000)(n:Int):
  Calls Tryz.prog 158 #[.pointer (some ⟨t,0,none⟩),.int .i64 (i:Int),.int .i64 0,.int .i64 n] w fun e w'=>a4Z w 4096 e w'/\Below w.heap.size w w':=by
 have k:fileT T i=0:=by simp[fileT,f,hk]
 have j:=qh (a2Q h g.1 i A);rw[a4c _ _ _ k] at j;obtain⟨-,v,m,r,hv,-⟩:=h.item i x f;obtain⟨ln,hln⟩:∃ln,x.b.length=ln:=⟨_,rfl⟩
 have hb5:ln<=4096:=by
  obtain⟨-,-,D,h3,-⟩:=g.1.nd i x f;obtain⟨-,-,-,-,H⟩:=D;omega
 obtain⟨a,cap,rfl,q⟩:=hv.bsn hln;have E:w.cell? ⟨F i,6,none⟩=some (.slice a ln cap):=a0a r 6;have y:=qh (a8I w a ln cap x.b q (by omega) 0 n);have C:=qh hb5;clear h g r q k f hk hln hv hb5;go_enter Tryz.func158,Tryz.ntmps158;go_wp2_with fail;refine j.out.mono ?_;rintro e I ⟨rfl,rfl⟩;go_wp2_with fail;refine y.out.mono ?_;rintro e w2 ⟨⟨o,d,ys,rfl,s,z,l⟩,p⟩;have u:=qh (show a4Z w 4096 (.returned (.tuple #[o,.int .i64 (d:Int)])) w2/\Below w.heap.size w w2 from⟨⟨o,d,ys,rfl,s,by have:=C.out;omega,l⟩,p⟩);clear s z l p;go_wp2_with fail;go_ret2;exact u.out
end
end Go.Proofs.YtbemfdcjieakdaaGreatDoor
