/- KeepLaw; QBegin; QStep; QOps; QAwake. -/
import Derived.Test.YtbemfdcjieakdaaGreatDoorK48
set_option maxRecDepth 100000
set_option maxHeartbeats 8000000
namespace Go.Proofs.YtbemfdcjieakdaaGreatDoor
section
open Go.RowKit
def a6C(m u:Nat)(a:Bool):Nd:=⟨1,1,1,m,u,a⟩
def aTr(b:List UInt8)(u:Nat)(a:Bool):Tr:=[(0,⟨⟨0,2,1,0,0,true⟩,[],[([97],1)]⟩),(1,⟨a6C b.length u a,b,[]⟩)]
def aSt(b:List UInt8)(u:Nat):StM:=⟨aTr b u true,b5S,0,fun _=>none⟩
def oSt(b:List UInt8):StM:=⟨aTr b 0 false,b5S,0,a7Q (fun _=>none) 0 (some ⟨true,1,[]⟩)⟩
theorem b1q:a1n 0 a0R [[97]]=(oSt [],0,0):=by kernel_rfl
theorem b2F:a1D (oSt []) 0 [97,119,97,107,101]=(oSt [97,119,97,107,101],0,5):=by kernel_rfl
theorem b4F(b:List UInt8):a2v (oSt b) 0 5=(aSt b 5,0):=by
 have a:a7Q (oSt b).fds 0 none=fun _=>none:=funext fun j=>by
  unfold oSt a7Q;by_cases h:j=0
  ·simp[h]
  ·simp[h]
 show((⟨aTr b 5 true,b5S,0,a7Q (oSt b).fds 0 none⟩:StM),0)=_;rw[a];rfl
theorem b8m(b:List UInt8)(u:Nat)(h:0<u):unlWhy (aSt b u) [[97]]=28:=by
 have e:unlWhy (aSt b u) [[97]]=wormRemove (a6C b.length u true) 0:=rfl;rw[e];unfold wormRemove;rw[Ah ⟨rfl,rfl,by show(1:Int)<=1;omega,h⟩]
theorem a9l{b:List UInt8}{u:Nat}{a:Bool}{i:Nat}{x:It}(h:getK i (aTr b u a)=some x):(i=0/\x=⟨⟨0,2,1,0,0,true⟩,[],[([97],1)]⟩)∨(i=1/\x=⟨a6C b.length u a,b,[]⟩):=by
 by_cases c:i=0
 ·subst c;have e:getK 0 (aTr b u a)=some ⟨⟨0,2,1,0,0,true⟩,[],[([97],1)]⟩:=rfl;rw[e] at h;injection h with h
  exact .inl ⟨rfl,h.symm⟩
 ·by_cases d:i=1
  ·subst d;have e:getK 1 (aTr b u a)=some ⟨a6C b.length u a,b,[]⟩:=rfl;rw[e] at h;injection h with h
   exact .inr ⟨rfl,h.symm⟩
  ·unfold getK aTr at h;simp[show ¬0=i from fun e=>c e.symm,show ¬1=i from fun e=>d e.symm] at h
theorem b8o(b:List UInt8)(u:Nat)(d:Bool)(f:b.length<=4096)(e:u<=1099511627776):TrOk 1 (aTr b u d):=by
 refine⟨⟨_,rfl,rfl⟩,fun i x c=>?_,fun i x s k c a=>?_,by simp[aTr]⟩
 ·rcases a9l c with⟨rfl,rfl⟩ | ⟨rfl,rfl⟩
  ·exact⟨AH _,rfl,by decide,rfl,by decide⟩
  ·refine⟨Aa _,rfl,?_,rfl,AH _⟩;show(0:Int)<=1/\(1:Int)<=65535/\(0:Int)<=1/\(1:Int)<=65535/\(((1:Int)=1/\(0:Int)<=((b.length:Nat):Int)/\((b.length:Nat):Int)<=4096/\u<=1099511627776)∨_)
   refine⟨by omega,by omega,by omega,by omega,.inl ⟨rfl,by omega,by omega,e⟩⟩
 ·rcases a9l c with⟨rfl,rfl⟩ | ⟨rfl,rfl⟩
  ·unfold getK at a;by_cases h:[97]=s
   ·simp[h] at a;subst a;exact⟨⟨_,rfl⟩,by decide,by rw[<-h];decide⟩
   ·simp[h] at a
  ·simp[getK] at a
theorem b70(b:List UInt8)(u:Nat)(a:Bool):cntN (aTr b u a) 8 0=[1]:=rfl
theorem good_a(b:List UInt8)(u:Nat)(f:b.length<=4096)(g:u<=1099511627776):TrGood 1 (aTr b u true):=by
 have c:=b8o b u true f g;refine⟨c,⟨?_,fun k=>?_,fun k y d hk=>?_,fun k y d=>?_,fun k y d e=>?_⟩,fun p a=>?_,?_⟩
 ·exact⟨_,rfl,rfl,fun p a=>by
   simp only[AQ] at a;subst a;exact⟨by decide,_,rfl,fun h=>absurd h (by simp[a6C])⟩⟩
 ·rw[b70];by_cases h:k=1
  ·simp[h]
  ·rw[List.count_eq_zero.2 (by simp;exact h)];omega
 ·rw[b70];rcases a9l d with⟨rfl,rfl⟩ | ⟨rfl,rfl⟩
  ·decide
  ·simp[a6C] at hk
 ·rw[b70];rcases a9l d with⟨rfl,rfl⟩ | ⟨rfl,rfl⟩
  ·rfl
  ·rfl
 ·rcases a9l d with⟨rfl,rfl⟩ | ⟨rfl,rfl⟩
  ·simp at e
  ·simp[a6C] at e
 ·simp only[aTr,AP,List.not_mem_nil,or_false] at a;rcases a with rfl | rfl
  ·exact⟨by decide,by decide,rfl,by decide,by decide,fun p a=>by
    simp only[AQ] at a;subst a;exact⟨by decide,by decide⟩,by simp,fun h=>absurd rfl h,.inr rfl⟩
  ·exact⟨(c.nd 1 _ rfl).2.2.1,by show u<_;omega,rfl,f,by simp,fun p a=>by simp at a,by simp,fun _=>rfl,.inl rfl⟩
 ·simp[aTr]
theorem sn_a:Sn0 b5S:=⟨rfl,by decide,by decide,rfl⟩
theorem b5V:TrGood 1 a0R.T:=by
 have n:∀i (x:It),getK i a0R.T=some x->i=0/\x=a0n 0 2:=fun i x f=>by
  unfold getK a0R at f;by_cases l:0=i
  ·simp[l] at f;exact⟨l.symm,by rw[<-f,<-l]⟩
  ·simp[l] at f
 have o:cntN a0R.T 8 0=[]:=rfl;have m:TrOk 1 a0R.T:=⟨a3P.root,fun i x f=>by
  obtain⟨a,b,c,d,e⟩:=a3P.nd i x f;exact⟨by omega,b,c,d,by omega⟩,a3P.nm,a3P.len⟩
 refine⟨m,⟨?_,fun k=>?_,fun k y j hk=>?_,fun k y j=>?_,fun k y j q=>?_⟩,fun p g=>?_,?_⟩
 ·exact⟨_,rfl,rfl,fun p g=>by simp[a0n] at g⟩
 ·rw[o];simp
 ·rw[o];obtain⟨rfl,rfl⟩:=n k y j;decide
 ·rw[o];obtain⟨rfl,rfl⟩:=n k y j;rfl
 ·obtain⟨rfl,rfl⟩:=n k y j;simp[a0n] at q
 ·simp only[a0R,AQ] at g;subst g;exact⟨by decide,by decide,rfl,by decide,by decide,fun p g=>by simp[a0n] at g,by simp[a0n],fun h=>absurd rfl h,.inr rfl⟩
 ·simp[a0R]
theorem a9Q:a0g [47,97]=([[97]],0):=by decide
theorem b2j:opEnc ⟨1,[47,97],[],0,0,0,0,0,[]⟩=([1,0,2,47,97],0):=by decide
theorem b4i:opEnc ⟨5,[],[],0,0,0,0,0,[97,119,97,107,101]⟩=([5,0,0,0,5,97,119,97,107,101],0):=by decide
theorem b4j:opEnc ⟨6,[],[],0,0,0,5,0,[]⟩=([6,0,0,0,0,0,0,0,0,0,5],0):=by decide
end
section
open Go.RowKit Go.ChangeMaps Go.MapKept
def idB:List UInt8:=[48,49,50,51,52,53,54,55,56,57,97,98,99,100,101,102]
theorem rc_m{w:World}{B l d:Nat}{s p g:Int}{hv b:Value}{M:LogM}(h:LogIn w B l d s p g hv b M){r:Rc}(a:r∈M.wait):r.ys.length=r.m:=(h.wt.2 r a).2.1
theorem b5N{g a c:Nat}{id H:List UInt8}{r:Rc}(f:r.core=(2,(a3b a id H c).next,[]))(o:r.ys.length=r.m)(v:g<=65535)(h:a<g)(p:H.length=32)(u:c<=1000000):LogOk g { a3b a id H c with wait:=[r] }:=by
 unfold Rc.core at f;injection f with s e
 injection e with e h3
 have b:r.m=0:=by rw[<-o,h3];rfl
 have t:(a3b a id H c).next<=1000000:=by
  show(if a=0 then 1 else c)<=_;split <;>omega
 have d:a1Z r.k r.q r.m:=⟨by rw[e];omega,by rw[b];omega,.inr ⟨s,b⟩⟩
 refine⟨by omega,by omega,by show(a:Int)<=g;omega,?_,by show(a3b a id H c).next+1<=_;omega,?_,by show 1<=1000;omega,fun j n=>?_⟩
 ·show(if a=0 then sha (3 :: id) else H).length=32;split
  ·exact a0v _
  ·exact p
 ·exact a8m _ _ (fun x i=>by rw[AQ.1 i];exact d) (by rw[a3V,b];show 15+0+0<=942;omega)
 ·have l:j<1:=n;obtain rfl:j=0:=by omega
  show r.q=_;rw[e];rfl
def VQ(w:World)(B0 n g m d v c:Nat)(S:List UInt8)(V:VltM):Prop:=
 ∃B sb mb b l e a iv hv,VIn w B d sb mb n (n / 4) g S idB v b l e a iv hv V/\(B0<=B/\B0<=d/\B0<=sb/\B0<=mb)/\VOk g m V a/\SGd c V.σ
theorem VQ.below{w w':World}{B0 n g m d v c:Nat}{S:List UInt8}{V:VltM}(h:VQ w B0 n g m d v c S V)(f:Below w.heap.size w w'):VQ w' B0 n g m d v c S V:=by
 obtain⟨B,sb,mb,b,l,a,e,iv,hv,i,j⟩:=h;exact⟨B,sb,mb,b,l,a,e,iv,hv,i.below f,j⟩
structure PlQ (n g:Nat):Prop where
 hn:64<=n
 hn4:n<=4096
 hp:isPlan (n:Int) ((n / 4:Nat):Int) (g:Int)
 hg:1+2 * (n / 4)+g * 8<=n
 g2:2<=g
theorem b7f(w:World):Calls Tryz.prog 22 #[] w fun e w'=>(∃c,e= .returned (.slice (some ⟨w.heap.size,0,none⟩) 16 c)/\Bs w' (some ⟨w.heap.size,0,none⟩) 16 c idB)/\Below w.heap.size w w':=by
 have d:=fun (w:World) (C:Array Value) (n c:Nat)=>CG (P:=Tryz.prog) w 30 5 C n c Tryz.underlying30 Tryz.underlying5
 have a:=Bs.newRow w #[.int .u8 48,.int .u8 49,.int .u8 50,.int .u8 51,.int .u8 52,.int .u8 53,.int .u8 54,.int .u8 55,.int .u8 56,.int .u8 57,.int .u8 97,.int .u8 98,.int .u8 99,.int .u8 100,.int .u8 101,.int .u8 102] TB (16,17) 16 16 idB rfl (by omega) (by simp[maxLen]) rfl;have b:=qh (aI a ((Ab w.heap.size w).alloc (Aa _) (.cells #[.int .u8 48,.int .u8 49,.int .u8 50,.int .u8 51,.int .u8 52,.int .u8 53,.int .u8 54,.int .u8 55,.int .u8 56,.int .u8 57,.int .u8 97,.int .u8 98,.int .u8 99,.int .u8 100,.int .u8 101,.int .u8 102] TB (16,17))));clear a;go_enter Tryz.func22,Tryz.ntmps22;go_wp2_with fail;go_ret;exact⟨⟨_,rfl,b.out.1⟩,b.out.2⟩
theorem b7l(n:Nat)(h:64<=n):(((n - 1 - 2 * (n / 4)) / 8:Nat):Int)=seg (n:Int):=by
 unfold seg;omega
theorem b1g(n g gen:Nat)(c:16<=n / 4)(a:1<=gen)(b:gen<=2):PtV.Good ⟨a5i idB gen,a0R.T,a0R.S,a0R.now⟩ g (n / 4) 1:=
 ⟨⟨a,by show gen<=1099511627776;omega,by show 0<=1099511627776;omega,by show(0:Int)<=0;omega,by show(0:Int)<=(g:Int);omega,a0v _⟩,by show b4c.length+94<=_;rw[a3Q];omega,rfl,b5V,a89,sn_a,by show 0<=1099511627776;omega⟩
theorem a5O(i:Nat)(x:It)(b:getK i a0R.T=some x):i=0/\x=a0n 0 2:=by
 unfold getK a0R at b;by_cases a:0=i
 ·simp[a] at b;exact⟨a.symm,by rw[<-b,<-a]⟩
 ·simp[a] at b
theorem b3Q:TGd 0 a0R.T:=by
 refine⟨a3P,⟨by simp[a0R],fun i x a=>?_⟩,fun k x a=>?_,fun k x a _=>?_,fun _=>0,fun i k b=>?_⟩
 ·obtain⟨rfl,rfl⟩:=a5O i x a;simp[a0n]
 ·obtain⟨rfl,rfl⟩:=a5O k x a;simp[cntT,nmN,a0R,a0n]
 ·obtain⟨rfl,rfl⟩:=a5O k x a;rfl
 ·obtain⟨x,s,y,a,_,c,_⟩:=b;obtain⟨rfl,rfl⟩:=a5O i x a;simp[a0n,getK] at c
theorem q_open{w:World}{d sb mb n g B0:Nat}{S:List UInt8}(t:Dk w d sb mb n S nM)(z:B0<=w.heap.size/\B0<=d/\B0<=sb/\B0<=mb)(a:PlQ n g)(k:DOk S n (n / 4) g idB (a1r (n / 4) (a5i idB 2)) (a1r (n / 4) (a5i idB 1)) (fun _=>List.replicate 1024 0)):
  Calls Tryz.prog 25 #[.pointer (some ⟨d,0,none⟩)] w fun e w'=>(∃v V',e= .returned (.tuple #[.pointer (some ⟨v,0,none⟩),.int .i64 0])/\VQ w' B0 n g 2 d v 0 S V'/\V'.M.sealed=0/\V'.σ=a0R)/\Below w.heap.size w w':=by
 have A:=a.hp.bd;have I:=a.hg;have E:=b1g n g 2 (by omega) (by omega) (by omega);have g1:=b1g n g 1 (by omega) (by omega) (by omega);have c:a03 ⟨a5i idB 2,a0R.T,a0R.S,a0R.now⟩ ⟨a5i idB 1,a0R.T,a0R.S,a0R.now⟩=⟨a5i idB 2,a0R.T,a0R.S,a0R.now⟩:=rfl;have h:=b49 t a.hn g 1 a.hp.2.2.2 idB rfl ⟨a5i idB 2,a0R.T,a0R.S,a0R.now⟩ ⟨a5i idB 1,a0R.T,a0R.S,a0R.now⟩ (fun _=>List.replicate 1024 0) k E g1 (by omega) (by rw[c];show(0:Nat)<_;omega) (by rw[c];show(0:Int)+1<(g:Int);have:=a.g2;omega) (fun _ _ _=>rfl);rw[c] at h;refine h.mono ?_;rintro e w' ⟨v,D,l,iv,hv,rfl,q,m,p,⟨B,F,r,j,s⟩,u,C,f,y⟩;have x:=rc_m s (AQ.2 rfl);have b:=t.lt;refine⟨⟨v,⟨a0R,{ a3b 0 idB (a5i idB 2).head ((a5i idB 2).seq+1) with wait:=[r] },2,0,0,0⟩,rfl,⟨w.heap.size,sb,mb,D,l,B,F,iv,hv,⟨m,C.any0 rfl (fun _=>rfl) (Aa _) (Aa _),s,u,f,q,p,b.1,b.2.1,b.2.2⟩,z,?_,?_⟩,rfl,rfl⟩,y⟩
 ·exact⟨b5N j x (by omega) (by have:=a.g2;omega) (a0v _) (by show(0:Nat)+1<=_;omega),Aa _,Aa _,Aa _,(fun e=>by cases e),fun _=>by show(0:Int)<(g:Int);have:=a.g2;omega⟩
 ·exact⟨b3Q,fun i o H G=>by simp[a0R] at G,b0o,AH _⟩
theorem qbegin_ok(n g:Nat)(q:64<=n)(Q:n<=4096)(L:g=(n - 1 - 2 * (n / 4)) / 8)(w:World):
  Calls Tryz.prog 5 #[.int .i64 (n:Int)] w fun e w'=>(∃d v x S V,e= .returned (.tuple #[.pointer (some ⟨d,0,none⟩),.pointer (some ⟨v,0,none⟩),.pointer (some ⟨x,0,none⟩)])/\VQ w' w.heap.size n g 2 d v 0 S V/\PlQ n g/\V.M.sealed=0/\V.σ=a0R)/\Below w.heap.size w w':=by
 have HN:=qh (b6x n w q Q);have z:(g:Int)=seg (n:Int):=by rw[L];exact b7l n q
 have b:=qh (aI q (aI Q (aI L z)));obtain⟨c,f⟩:=qnm (seg (n:Int));have C:=qh (fun W=>b8B (n:Int) W (by omega) (by omega));rw[<-f] at C;have a0:=qh f;have o:=b6S (n:Int) (by omega) (by omega);rw[<-f] at o;have O:=qh o;clear f z L o q Q;go_enter Tryz.func5,Tryz.ntmps5;go_wp2_with fail;refine HN.out.mono ?_;rintro e w1 ⟨d,sb,mb,rfl,E,T,R,K,hb1⟩;have Y:=qh (b7f w1);have p:=qh (aI E (aI T (aI R (aI K hb1))));clear E T R K hb1 HN;go_wp2_with fail;refine Y.out.mono ?_;rintro e w2 ⟨⟨ic,rfl,Z⟩,hb2⟩;have J:=p.out.1.lt;have j:=qh (b4d (p.out.1.below hb2) b.out.1 _ ic idB Z (fun ad e=>by injection e with e;subst e;simp only;omega));have U:=qh hb2;obtain⟨ib,r⟩:=qnm w1.heap.size;rw[<-r] at j⊢;clear Z hb2 J Y r;go_wp2_with fail;refine j.out.mono ?_;rintro e w3 ⟨rfl,⟨S',D,i⟩,t⟩;have hb3:Below w.heap.size w w3:=by
  obtain⟨_,T,R,K,hb1⟩:=p.out;exact(hb1.trans (U.out.mono hb1.size)).trans (t.below (Ad hb1.size U.out.size) (fun k _ e=>by omega))
 rw[<-b.out.2.2.1] at i;have m:isPlan (n:Int) ((n / 4:Nat):Int) (g:Int):=⟨by have:=b.out.1;omega,by have:=b.out.2.1;omega,by omega,b.out.2.2.2⟩
 have P:=m.bd;have l:PlQ n g:=⟨b.out.1,b.out.2.1,m,by have q:=b.out.2.2.1;have:=b.out.1;omega,by have q:=b.out.2.2.1;have:=b.out.1;omega⟩
 have N:=qh l;have u:=qh (q_open (B0:=w.heap.size) D ⟨hb3.size,p.out.2.1,p.out.2.2.1,p.out.2.2.2.1⟩ l i);have B:=qh hb3;clear D i t hb3 m P l j;go_wp2_with fail;refine u.out.mono ?_;rintro e w4 ⟨⟨v,V,rfl,hK,s⟩,hb4⟩;have F:=qh (aI hK (aI s (B.out.trans (hb4.mono B.out.size))));clear hK s hb4 u;have y:=qh (C.out w4);go_wp2_with fail;refine y.out.mono ?_;rintro e G ⟨rfl,hb5⟩;obtain⟨I,h⟩:=qnm (G.alloc (.cells #[.int .i64 (n:Int),.int .i64 ((n:Int) / 4),.int .i64 c] 64));have hb6:=qba h;have A:I.heap[G.heap.size]? =some (.cells #[.int .i64 (n:Int),.int .i64 ((n:Int) / 4),.int .i64 c] 64 (0,0)):=by rw[h];exact Ae G _
 have c2:I.cell? ⟨G.heap.size,2,none⟩=some (.int .i64 c):=a0a A 2;have H6:=qh (hb5.trans (hb6.mono hb5.size));have H:=qh h;have HV:=qh (b3l I c (by have:=O.out;omega));clear hb5 hb6 h A y;go_upto_region 8 with fail
 rw[<-H.out];go_wp2_with fail;refine HV.out.mono ?_;rintro e w7 ⟨⟨x,rfl⟩,hb7⟩;have a:=H6.out.trans (hb7.mono H6.out.size);have X:=qh (aI (F.out.1.below a) (F.out.2.2.trans (a.mono F.out.2.2.size)));clear hb7 a;go_wp2_with fail;go_ret3;exact⟨⟨d,v,x,_,_,rfl,X.out.1,N.out,F.out.2.1⟩,X.out.2⟩
def b9b(w:World)(B0 n g m d v c:Nat)(S:List UInt8)(V:VltM)(p:Nat)(q:Bool)(Q:StM->Int->Int->Nat->Nat->Nd->Prop)(P:List UInt8->LogM->Prop)(e:Ending)(w':World):Prop:=
 (∃a er i l h k j f o nd,Q a er i h f nd/\
  ((er≠0/\e= .returned (.agg (rpC er i (.slice l h k) (.slice j f o) nd))/\VQ w' B0 n g m d v c S V)∨
   (er=0/\q=true/\(∃b:Nat,b≠0/\e= .returned (.agg (noC b 0)))/\VQ w' B0 n g m d v c S V/\(p≠0∨(g:Int) - (V.M.sealed:Int)<=1))∨
   (er=0/\e= .returned (.agg (rpC 0 i (.slice l h k) (.slice j f o) nd))/\∃S' V',VQ w' B0 n g (m+1) d v (c+1) S' V'/\V'.σ=a/\V'.M.sealed<=V.M.sealed+2/\P S' V'.M)))/\Fr B0 w w'
theorem q_step{w:World}{B0 n g m d v c:Nat}{S:List UInt8}{V:VltM}(hK:VQ w B0 n g m d v c S V)(L:PlQ n g)(hc:c+1<=60000)(hm:m<=1000000)(k:Nat)(hk:1<=k/\k<=17)(p x:List UInt8)(fd a o:Int)(til:Nat)(i:Int)(u:Option Addr)(h t:Nat)(r:List UInt8)(hD:Bs w u h t r)(G:p.length<=210)(J:x.length<=210)(I:h<=610)
  (Q:StM->Int->Int->Nat->Nat->Nd->Prop) (K:∀b H D C nd,Q b 0 H D C nd->SGd (c+1) b) (P:List UInt8->LogM->Prop) (A:PCl n (n / 4) g ⟨k,p,x,fd,a,o,til,i,r⟩ P) (hP:P S V.M) (z:∀B,b4Y w B V.σ (a0b k (a0c p) (a0c x) fd a o til i u h t) Q):
  Calls Tryz.prog 13 #[.pointer (some ⟨v,0,none⟩),.agg (a0b k (a0c p) (a0c x) fd a o til i u h t)] w fun e w'=>b9b w B0 n g m d v c S V (opEnc ⟨k,p,x,fd,a,o,til,i,r⟩).2 (a50 k) Q P e w':=by
 obtain⟨B,sb,mb,st,l,lh,wv,iv,hv,X,y,h3,E⟩:=hK;refine(b7b X E (by omega) hc y L.hp L.hg rfl h3 hm k hk p x fd a o til i u h t r hD G J I Q K P A hP (z B)).mono ?_;rintro e w' ⟨⟨b,er,H,a1,D,T,O,C,k2,nd,N,hr⟩,hF⟩;refine⟨⟨b,er,H,a1,D,T,O,C,k2,nd,N,?_⟩,hF⟩;rcases hr with⟨f,q,j⟩ | ⟨f,Y,q,j,s⟩ | ⟨f,q,a0,R,U,a3,a4,S',V',j,s,Z,W,F⟩
 ·exact .inl ⟨f,q,_,_,_,_,_,_,_,_,_,j,y,h3,E⟩
 ·exact .inr (.inl ⟨f,Y,q,⟨_,_,_,_,_,_,_,_,_,j,y,h3,E⟩,s⟩)
 ·refine .inr (.inr ⟨f,q,S',V',⟨_,_,_,_,_,_,_,_,_,j,y,Z,?_⟩,s,W,F⟩);rw[s];subst f;exact K _ _ _ _ _ N
def PT:List UInt8->LogM->Prop:=fun _ _=>True
theorem b7s(n pn g:Nat)(o:Ov):PCl n pn g o PT:=⟨fun _ _ _ _ _ _ _=>trivial,fun _ _ _ _ _ _ _ _=>trivial,fun _ _ _ _ _ _ _ _=>trivial⟩
def QAny(w:World)(B0 n g m d v c:Nat)(S:List UInt8)(V:VltM)(e:Ending)(w':World):Prop:=
 (∃(er f:Int) (j:Option Addr) (b i:Nat) (h:Option Addr) (a k:Nat) (nd:Nd),e= .returned (.agg (rpC er f (.slice j b i) (.slice h a k) nd))/\
  ((er≠0/\f=0/\b=0/\a=0/\VQ w' B0 n g m d v c S V)∨(er=0/\∃S' V',VQ w' B0 n g (m+1) d v (c+1) S' V')))/\Fr B0 w w'
theorem q_any{w:World}{B0 n g m d v c:Nat}{S:List UInt8}{V:VltM}(hK:VQ w B0 n g m d v c S V)(T:PlQ n g)(Y:c+1<=60000)(W:m<=1000000)(X:Glob w)(k:Int)(p x:List UInt8)(fd a t:Int)(til:Nat)(o:Int)(i:Option Addr)(b f:Nat)(u:List UInt8)(O:Bs w i b f u)(F:p.length<=210)(E:x.length<=210)(I:b<=610):
  Calls Tryz.prog 13 #[.pointer (some ⟨v,0,none⟩),.agg (a0b k (a0c p) (a0c x) fd a t til o i b f)] w fun e w'=>QAny w B0 n g m d v c S V e w':=by
 by_cases hk:k<1∨17<k
 ·obtain⟨B,sb,mb,st,l,Z,wv,iv,hv,L,G,h3,s⟩:=hK;refine(b7a L s (by omega) G k hk p x fd a t til o i b f).mono ?_;rintro e w' ⟨⟨y,hy,rfl⟩,h5,hF⟩;exact⟨⟨_,0,none,0,0,none,0,0,a0z,rfl,.inl ⟨by omega,rfl,rfl,rfl,_,_,_,_,_,_,_,_,_,h5,G,h3,s⟩⟩,hF⟩
 ·obtain⟨r,rfl⟩:∃r:Nat,k=(r:Int):=⟨k.toNat,by omega⟩
  have R:SGd c V.σ:=by obtain⟨B,sb,mb,st,l,Z,wv,iv,hv,L,G,h3,s⟩:=hK;exact s
  refine(q_step hK T Y W r (by omega) p x fd a t til o i b f u O F E I (QL c) (fun z H C A nd h=>h.1) PT (b7s _ _ _ _) trivial (fun B=>b5a R (by omega) X r (by omega) p x (by omega) (by omega) fd a t til o i b f u O)).mono ?_;rintro e w' ⟨⟨z,er,H,N,C,K,J,A,M,nd,hq,hr⟩,hF⟩;refine⟨?_,hF⟩;rcases hr with⟨q,rfl,j⟩ | ⟨q,_,⟨D,hw,rfl⟩,j,_⟩ | ⟨q,rfl,S',V',j,_⟩
  ·obtain⟨P,U,Q⟩:=hq.2 q;exact⟨er,H,N,C,K,J,A,M,nd,rfl,.inl ⟨q,P,U,Q,j⟩⟩
  ·exact⟨D,0,none,0,0,none,0,0,a0z,rfl,.inl ⟨by omega,rfl,rfl,rfl,j⟩⟩
  ·exact⟨0,H,N,C,K,J,A,M,nd,rfl,.inr ⟨rfl,S',V',j⟩⟩
end
section
open Go.RowKit Go.ChangeMaps Go.MapKept
def QX(e:StM)(c a:Int)(d:Nd):StM->Int->Int->Nat->Nat->Nd->Prop:=fun b er f _ _ nd=>b=e/\er=c/\f=a/\nd=d
theorem b22(s:List (List UInt8))(h:s=[[97]]):∀x∈s,x.length<=1000000:=fun x a=>by
 subst h;rw[AQ.1 a];decide
theorem b8D(b:List UInt8):∀i o,i<8->(oSt b).fds i=some o->o.id<=1000000:=fun i o _ a=>by
 unfold oSt a7Q at a;by_cases h:i=0
 ·simp[h] at a;subst a;decide
 ·simp[h] at a
variable {w : World} {B : Nat}
theorem b2O(i:Glob w):b4Y w B a0R (a0b 1 (a0c [47,97]) (a0c []) 0 0 0 0 0 none 0 0) (QX (oSt []) 0 0 a0z):=by
 intro W l m k g B' d f b j a;have h:=b4s (c:=0) a a3P (by omega) d (Aa _) b (i.below j) [47,97] [] (by decide) (by decide) [[97]] a9Q (b22 _ rfl) 0 0 0 0 0 none 0 0 (by decide);rw[b1q] at h;refine h.mono ?_;rintro e w' ⟨rfl,⟨n,h⟩,hF⟩;exact⟨⟨_,_,_,none,0,0,none,0,0,_,rfl,⟨rfl,rfl,rfl,rfl⟩,StAt.of h d⟩,hF⟩
theorem b5b(m:Glob w)(b:Option Addr)(d:Nat)(j:Bs w b 5 d [97,119,97,107,101]):b4Y w B (oSt []) (a0b 5 (a0c []) (a0c []) 0 0 0 0 0 b 5 d) (QX (oSt [97,119,97,107,101]) 0 5 a0z):=by
 intro W o p n l B' i k f g a;have h:=b1n (c:=1) a (b8o [] 0 false (by decide) (by decide)) (b8D []) i (Aa _) f (m.below g) [] [] (by decide) (by decide) 0 0 0 0 0 b 5 d _ (j.below g);rw[b2F] at h;refine h.mono ?_;rintro e w' ⟨rfl,⟨q,h⟩,hF⟩;exact⟨⟨_,_,_,none,0,0,none,0,0,_,rfl,⟨rfl,rfl,rfl,rfl⟩,StAt.of h i⟩,hF⟩
theorem b5c(j:Glob w)(b:List UInt8)(hb4:b.length<=4096):b4Y w B (oSt b) (a0b 6 (a0c []) (a0c []) 0 0 0 5 0 none 0 0) (QX (aSt b 5) 0 0 a0z):=by
 intro W m n l i B' f g d k a;have h:=b6n (c:=1) a (b8o b 0 false hb4 (by decide)) (b8D b) f (Aa _) d (j.below k) [] [] (by decide) (by decide) 0 0 0 5 0 none 0 0;rw[b4F] at h;refine h.mono ?_;rintro e w' ⟨rfl,⟨o,h⟩,hF⟩;exact⟨⟨_,_,_,none,0,0,none,0,0,_,rfl,⟨rfl,rfl,rfl,rfl⟩,StAt.of h f⟩,hF⟩
theorem b7c(k:Glob w)(b:List UInt8)(u:Nat)(hb4:b.length<=4096)(g:u<=1099511627776):b4Y w B (aSt b u) (a0b 12 (a0c [47,97]) (a0c []) 0 0 0 0 0 none 0 0) (QX (aSt b u) 0 0 (a6C b.length u true)):=by
 intro W n o m j B' f i d l a;have h:=b7R (c:=1) a (b8o b u true hb4 g) (by omega) f (Aa _) d (k.below l) [47,97] [] (by decide) (by decide) [[97]] a9Q (b22 _ rfl) 0 0 0 0 0 none 0 0 rfl;have e:a1u (aSt b u).T [[97]]=(a6C b.length u true,0):=rfl;rw[e] at h;refine h.mono ?_;rintro e w' ⟨rfl,⟨p,h⟩,hF⟩;exact⟨⟨_,_,_,none,0,0,none,0,0,_,rfl,⟨rfl,rfl,rfl,rfl⟩,StAt.of h f⟩,hF⟩
theorem b2N(l:Glob w)(b:List UInt8)(u:Nat)(hb4:b.length<=4096)(i:u<=1099511627776)(f:0<u):b4Y w B (aSt b u) (a0b 8 (a0c [47,97]) (a0c []) 0 0 0 0 0 none 0 0) (QX (aSt b u) 28 0 a0z):=by
 intro W o p n k B' g j d m a;have h:=b4q (c:=1) a (b8o b u true hb4 i) (by omega) g (Aa _) d (l.below m) [47,97] [] (by decide) (by decide) [[97]] a9Q (b22 _ rfl) 0 0 0 0 0 none 0 0 (by rw[b8m b u f];decide);rw[b8m b u f] at h;refine h.mono ?_;rintro e w' ⟨rfl,⟨q,h⟩,hF⟩;exact⟨⟨_,_,_,none,0,0,none,0,0,_,rfl,⟨rfl,rfl,rfl,rfl⟩,StAt.of h g⟩,hF⟩
end
section
open Go.RowKit Go.ChangeMaps Go.MapKept
theorem q_yes{w:World}{B0 n g m d v c:Nat}{S:List UInt8}{V:VltM}(hK:VQ w B0 n g m d v c S V)(N:PlQ n g)(W:c+1<=60000)(P:m<=1000000)(k:Nat)(hk:1<=k/\k<=17)(p x:List UInt8)(fd b s:Int)(til:Nat)(r:Int)(q:Option Addr)(i j:Nat)(C:List UInt8)(X:Bs w q i j C)(F:p.length<=210)(D:x.length<=210)(I:i<=610)
  (a:StM) (t:Int) (nd:Nd) (z:∀B,b4Y w B V.σ (a0b k (a0c p) (a0c x) fd b s til r q i j) (QX a 0 t nd)) (L:SGd (c+1) a) (G:a50 k=false∨((opEnc ⟨k,p,x,fd,b,s,til,r,C⟩).2=0/\V.M.sealed+1<g)):
  Calls Tryz.prog 13 #[.pointer (some ⟨v,0,none⟩),.agg (a0b k (a0c p) (a0c x) fd b s til r q i j)] w fun e w'=>(∃H o y u l E,e= .returned (.agg (rpC 0 t (.slice H o y) (.slice u l E) nd)))/\(∃S' V',VQ w' B0 n g (m+1) d v (c+1) S' V'/\V'.σ=a/\V'.M.sealed<=V.M.sealed+2)/\Fr B0 w w':=by
 refine(q_step hK N W P k hk p x fd b s til r q i j C X F D I (QX a 0 t nd) (fun A t o l nd h=>by rw[h.1];exact L) PT (b7s _ _ _ _) trivial z).mono ?_;rintro e w' ⟨⟨A,er,Q,H,o,y,u,l,E,K,⟨rfl,rfl,rfl,rfl⟩,U⟩,hF⟩;rcases U with⟨R,_⟩ | ⟨_,J,_,_,f⟩ | ⟨_,rfl,S',V',T,f,O,_⟩
 ·exact absurd rfl R
 ·rcases G with h | ⟨h,Y⟩
  ·rw[h] at J;cases J
  ·rcases f with f | f
   ·exact absurd h f
   ·omega
 ·exact⟨⟨H,o,y,u,l,E,rfl⟩,⟨S',V',T,f,O⟩,hF⟩
theorem q_no{w:World}{B0 n g m d v c:Nat}{S:List UInt8}{V:VltM}(hK:VQ w B0 n g m d v c S V)(K:PlQ n g)(Q:c+1<=60000)(L:m<=1000000)(k:Nat)(hk:1<=k/\k<=17)(p x:List UInt8)(fd b E:Int)(til:Nat)(D:Int)(q:Option Addr)(f j:Nat)(I:List UInt8)(R:Bs w q f j I)(F:p.length<=210)(z:x.length<=210)(H:f<=610)
  (i:StM) (er r:Int) (a:er≠0) (nd:Nd) (u:∀B,b4Y w B V.σ (a0b k (a0c p) (a0c x) fd b E til D q f j) (QX i er r nd)):
  Calls Tryz.prog 13 #[.pointer (some ⟨v,0,none⟩),.agg (a0b k (a0c p) (a0c x) fd b E til D q f j)] w fun e w'=>(∃G o t s l A,e= .returned (.agg (rpC er r (.slice G o t) (.slice s l A) nd)))/\VQ w' B0 n g m d v c S V/\Fr B0 w w':=by
 refine(q_step hK K Q L k hk p x fd b E til D q f j I R F z H (QX i er r nd) (fun y r o l nd h=>absurd h.2.1.symm a) PT (b7s _ _ _ _) trivial u).mono ?_;rintro e w' ⟨⟨y,M,N,G,o,t,s,l,A,J,⟨rfl,rfl,rfl,rfl⟩,P⟩,hF⟩;rcases P with⟨_,rfl,O⟩ | ⟨C,_⟩ | ⟨C,_⟩
 ·exact⟨⟨G,o,t,s,l,A,rfl⟩,O,hF⟩
 ·exact absurd C a
 ·exact absurd C a
def rqC(er a:Int)(d l:Value):Array Value:=#[.int .i64 er,.int .i64 a,d,l,.int .i64 0,.int .i64 0,.int .i64 0,.int .i64 0,.int .u64 0,.bool false]
theorem b8t:SGd 0 a0R:=⟨b3Q,fun i o _ a=>by simp[a0R] at a,b0o,AH _⟩
theorem a8N:SGd 1 (oSt []):=by
 have h:=(a5l b8t (by omega) [[97]]).1;rw[b1q] at h;exact h
theorem b0T:SGd 2 (oSt [97,119,97,107,101]):=by
 have h:=(a5S a8N 0 [97,119,97,107,101]).1;rw[b2F] at h;exact h
theorem b0U:SGd 3 (aSt [97,119,97,107,101] 5):=by
 have h:=a9y b0T 0 5;rw[b4F] at h;exact h
theorem b4S(w:World)(hg:Glob w):Calls Tryz.prog 14 #[] w fun e w'=>e= .returned (.bool true)/\Below w.heap.size w w':=by
 have HB:=qh (qbegin_ok 100 6 (by omega) (by omega) (by decide) w);have y:=qh hg;have kc:=fun (w:World) (C:Array Value) (n c:Nat)=>CG (P:=Tryz.prog) w 30 5 C n c Tryz.underlying30 Tryz.underlying5
 clear hg;go_enter Tryz.func14,Tryz.ntmps14;go_wp2_with fail;refine HB.out.mono ?_;rintro e w1 ⟨⟨d,v,x,S,V,rfl,hK,hP,ai,a6⟩,hb1⟩;have HP:=qh hP;have O:=qh (q_yes hK hP (by omega) (by omega) 1 (by omega) [47,97] [] 0 0 0 0 0 none 0 0 [] (Bs.nil _) (by decide) (by decide) (by decide) (oSt []) 0 a0z (fun B=>by rw[a6];exact b2O (y.out.below hb1)) a8N (.inr ⟨by rw[show((1:Nat):Int)=1 from rfl,b2j],by omega⟩));rw[ai] at O;unfold a0b rpC a0z at O;have Y:=qh hb1;clear hK hP a6 ai hb1 HB;go_wp2_with fail;refine O.out.mono ?_;rintro e w2 ⟨⟨a1,n1,k1,a2,n2,k2,rfl⟩,⟨S2,V2,ae,L,R⟩,a4⟩;obtain⟨w3,z⟩:=qnm (w2.alloc (.cells (rqC 0 0 (.slice a1 n1 k1) (.slice a2 n2 k2)) TReply));obtain⟨p,hA1⟩:=qnm w2.heap.size;have g:=qba z;have A:w3.heap[p]? =some (.cells (rqC 0 0 (.slice a1 n1 k1) (.slice a2 n2 k2)) TReply (0,0)):=by rw[z,hA1];exact Ae w2 _
 have U:=qh (show Below w.heap.size w w3 from(Y.out.trans a4.1).trans (g.mono (Y.out.trans a4.1).size));have u:=qh A;have ah:=qh (ae.below g);unfold rqC at z;have D:=qh (aI z hA1);have G:=qh (aI L R);clear g A ae L R a4 z hA1 O;go_upto_region 5 with fail
 rw[<-D.out.1,<-D.out.2];clear D;obtain⟨w4,K⟩:=qnm (w3.alloc (.cells #[.int .u8 97,.int .u8 119,.int .u8 97,.int .u8 107,.int .u8 101] TB (5,6)));obtain⟨g4,a3⟩:=qnm w3.heap.size;have hb4:=qba K;have Z:Bs w4 (some ⟨g4,0,none⟩) 5 5 [97,119,97,107,101]:=by rw[K,a3];exact Bs.newRow w3 _ TB (5,6) 5 5 _ rfl (by omega) (by simp[maxLen]) rfl
 have J:=qh (U.out.trans (hb4.mono U.out.size));have O:=qh (q_yes (ah.out.below hb4) HP.out (by omega) (by omega) 5 (by omega) [] [] 0 0 0 0 0 (some ⟨g4,0,none⟩) 5 5 [97,119,97,107,101] Z (by decide) (by decide) (by decide) (oSt [97,119,97,107,101]) 5 a0z (fun B=>by rw[G.out.1];exact b5b (y.out.below J.out) _ 5 Z) b0T (.inr ⟨by rw[show((5:Nat):Int)=5 from rfl,b4i],by have:=G.out.2;omega⟩));unfold a0b rpC a0z at O;have b:=qh ((hb4.block p (ltH u.out)).trans u.out);have W:=qh (aI K a3);clear K a3 hb4 Z u U ah Y;go_wp2_with fail;rw[<-W.out.1,<-W.out.2];refine O.out.mono ?_;rintro e w5 ⟨⟨b1,m1,j1,b2,m2,j2,rfl⟩,⟨S5,V5,ab,N,ac⟩,s⟩;obtain⟨w6,F⟩:=qnm (w5.alloc (.cells (rqC 0 5 (.slice b1 m1 j1) (.slice b2 m2 j2)) TReply));obtain⟨T,hA2⟩:=qnm w5.heap.size;have g:=qba F;have A:w6.heap[T]? =some (.cells (rqC 0 5 (.slice b1 m1 j1) (.slice b2 m2 j2)) TReply (0,0)):=by rw[F,hA2];exact Ae w5 _
 have I:=qh (show Below w.heap.size w w6 from(J.out.trans s.1).trans (g.mono (J.out.trans s.1).size));have f:=(g.block p (ltH (s.2 p _ _ b.out))).trans (s.2 p _ _ b.out);clear b;have b:=qh f;clear f;have a:=qh A;have a9:=qh (ab.below g);unfold rqC at F;have t:=qh (aI F hA2);have X:=qh (q_yes a9.out HP.out (by omega) (by omega) 6 (by omega) [] [] 0 0 0 5 0 none 0 0 [] (Bs.nil _) (by decide) (by decide) (by decide) (aSt [97,119,97,107,101] 5) 0 a0z (fun B=>by rw[N];exact b5c (y.out.below I.out) _ (by decide)) b0U (.inr ⟨by rw[show((6:Nat):Int)=6 from rfl,b4j],by have:=G.out.2;omega⟩));unfold a0b rpC a0z at X;clear g A ab N ac s F hA2 O a9 J W G;go_upto_region 6 with fail
 rw[<-t.out.1,<-t.out.2];clear t;go_wp2_with fail;refine X.out.mono ?_;rintro e w7 ⟨⟨c1,l1,i1,c2,l2,i2,rfl⟩,⟨S7,V7,aj,q,-⟩,m⟩;obtain⟨w8,r⟩:=qnm (w7.alloc (.cells (rqC 0 0 (.slice c1 l1 i1) (.slice c2 l2 i2)) TReply));obtain⟨A3,hA3⟩:=qnm w7.heap.size;have g:=qba r;have A:w8.heap[A3]? =some (.cells (rqC 0 0 (.slice c1 l1 i1) (.slice c2 l2 i2)) TReply (0,0)):=by rw[r,hA3];exact Ae w7 _
 have H:=qh (show Below w.heap.size w w8 from(I.out.trans m.1).trans (g.mono (I.out.trans m.1).size));have f:=(g.block p (ltH (m.2 p _ _ b.out))).trans (m.2 p _ _ b.out);clear b;have b:=qh f;clear f;have k:=(g.block T (ltH (m.2 T _ _ a.out))).trans (m.2 T _ _ a.out);clear a;have a:=qh k;clear k;have j:=qh A;have a8:=qh (aj.below g);unfold rqC at r;have E:=qh (aI r hA3);have a5:=qh (q_no a8.out HP.out (by omega) (by omega) 8 (by omega) [47,97] [] 0 0 0 0 0 none 0 0 [] (Bs.nil _) (by decide) (by decide) (by decide) (aSt [97,119,97,107,101] 5) 28 0 (by decide) a0z (fun B=>by rw[q];exact b2N (y.out.below H.out) _ 5 (by decide) (by decide) (by decide)));unfold a0b rpC a0z at a5;have ak:=qh q;clear g A aj q m r hA3 X a8 I;go_upto_region 7 with fail
 rw[<-E.out.1,<-E.out.2];clear E;go_wp2_with fail;refine a5.out.mono ?_;rintro e w9 ⟨⟨d1,o1,q1,d2,o2,q2,rfl⟩,ag,h⟩;obtain⟨o,i⟩:=qnm (w9.alloc (.cells (rqC 28 0 (.slice d1 o1 q1) (.slice d2 o2 q2)) TReply));obtain⟨A4,hA4⟩:=qnm w9.heap.size;have g:=qba i;have A:o.heap[A4]? =some (.cells (rqC 28 0 (.slice d1 o1 q1) (.slice d2 o2 q2)) TReply (0,0)):=by rw[i,hA4];exact Ae w9 _
 have a7:=qh (show Below w.heap.size w o from(H.out.trans h.1).trans (g.mono (H.out.trans h.1).size));have f:=(g.block p (ltH (h.2 p _ _ b.out))).trans (h.2 p _ _ b.out);clear b;have b:=qh f;clear f;have k:=(g.block T (ltH (h.2 T _ _ a.out))).trans (h.2 T _ _ a.out);clear a;have a:=qh k;clear k;have Q:=(g.block A3 (ltH (h.2 A3 _ _ j.out))).trans (h.2 A3 _ _ j.out);clear j;have j:=qh Q;clear Q;have ad:=qh A;have af:=qh (ag.below g);unfold rqC at i;have l:=qh (aI i hA4);have aa:=qh (q_yes af.out HP.out (by omega) (by omega) 12 (by omega) [47,97] [] 0 0 0 0 0 none 0 0 [] (Bs.nil _) (by decide) (by decide) (by decide) (aSt [97,119,97,107,101] 5) 0 (a6C 5 5 true) (fun B=>by rw[ak.out];exact b7c (y.out.below a7.out) [97,119,97,107,101] 5 (by decide) (by decide)) (b0U.mono (by omega)) (.inl rfl));unfold a0b rpC a6C at aa;clear g A ag h i hA4 a5 af H;go_upto_region 8 with fail
 rw[<-l.out.1,<-l.out.2];clear l;have a0:o.cell? ⟨p,0,none⟩=some (.int .i64 0):=a0a b.out 0;have b1:o.cell? ⟨T,1,none⟩=some (.int .i64 5):=a0a a.out 1;have c0:o.cell? ⟨A3,0,none⟩=some (.int .i64 0):=a0a j.out 0;have d0:o.cell? ⟨A4,0,none⟩=some (.int .i64 28):=a0a ad.out 0;go_wp2_with fail;refine aa.out.mono ?_;rintro e am ⟨⟨e1,p1,r1,e2,p2,r2,rfl⟩,_,M⟩;have HF:=qh (a7.out.trans M.1);clear M;have al:∀w:World,(Instr.field 41 (.agg #[.int .i64 0,.int .i64 0,.slice e1 p1 r1,.slice e2 p2 r2,.int .i64 1,.int .i64 1,.int .i64 1,.int .i64 5,.int .u64 5,.bool true]) 4).run Tryz.prog w= .ok (.agg #[.int .i64 1,.int .i64 1,.int .i64 1,.int .i64 5,.int .u64 5,.bool true]) w:=fun _=>by kernel_rfl
 have an:∀w:World,(Instr.field 39 (.agg #[.int .i64 1,.int .i64 1,.int .i64 1,.int .i64 5,.int .u64 5,.bool true]) 3).run Tryz.prog w= .ok (.int .i64 5) w:=fun _=>by kernel_rfl
 go_wp2_with fail;go_ret;exact⟨rfl,HF.out⟩
end
end Go.Proofs.YtbemfdcjieakdaaGreatDoor
