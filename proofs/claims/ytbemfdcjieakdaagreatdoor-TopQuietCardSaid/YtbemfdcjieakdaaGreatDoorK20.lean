/- TreeShape. -/
import Derived.Test.YtbemfdcjieakdaaGreatDoorK18
set_option maxRecDepth 100000
set_option maxHeartbeats 8000000
namespace Go.Proofs.YtbemfdcjieakdaaGreatDoor
section
open Go.RowKit
def UqT(T:Tr):Prop:=T.Pairwise (fun p q=>p.1≠q.1)/\∀i x,getK i T=some x->x.names.Pairwise (fun p q=>p.1≠q.1)
def nmN(l:List (List UInt8×Nat))(k:Nat):Nat:=(l.map (·.2)).count k
def cntT(T:Tr)(k:Nat):Nat:=(T.map fun p=>nmN p.2.names k).sum
theorem a8d(s:List UInt8)(v:Nat)(l:List (List UInt8×Nat))(k:Nat):nmN ((s,v) :: l) k=nmN l k+if v=k then 1 else 0:=by
 unfold nmN;rw[Au,List.count_cons];by_cases h:v=k <;>simp [h]
theorem a2u(p:Nat×It)(T:Tr)(k:Nat):cntT (p :: T) k=nmN p.2.names k+cntT T k:=by
 unfold cntT;rw[Au,Ci]
theorem b3f(T:Tr)(i:Nat)(x:It)(h:∀p∈T,p.1≠i):a01 T i x=T:=by
 unfold a01
 induction T with
 | nil=>rfl
 | cons y r a=>
  rw[Au,Ag (h y (AL ..)),a (fun p b=>h p (AI _ b))]
theorem a2F(k:Nat):∀ {T:Tr},T.Pairwise (fun p q=>p.1≠q.1)->∀ {i:Nat} {x:It} (x':It),getK i T=some x->cntT (a01 T i x') k+nmN x.names k=cntT T k+nmN x'.names k
 | [],_,i,x,x',hx=>by simp[getK] at hx
 | y :: r,hu,i,x,x',hx=>by
  obtain⟨b,c⟩:=Bc.1 hu;unfold getK at hx;rw[List.find?_cons] at hx;have f:a01 (y :: r) i x'=(if y.1=i then(y.1,x') else y) :: a01 r i x':=rfl;rw[f,a2u,a2u];by_cases a:y.1=i
  ·simp[a] at hx;rw[Ah a,b3f r i x' (fun p d e=>b p d (a.trans e.symm)),hx];simp only;omega
  ·simp[a] at hx;rw[Ag a];have:=a2F k c (i:=i) (x:=x) x' (by unfold getK;simpa using hx);omega
theorem a8u(i k:Nat):∀(T:Tr),cntT (a1K i T) k<=cntT T k
 | []=>Aa _
 | y :: r=>by
  have:=a8u i k r;have a:a1K i (y :: r)=if y.1=i then a1K i r else y :: a1K i r:=by
   unfold a1K;rw[List.filter_cons];by_cases h:y.1=i <;>simp [h]
  rw[a,a2u];by_cases h:y.1=i
  ·rw[Ah h];omega
  ·rw[Ag h,a2u];omega
theorem b4b{a b:Type}[DecidableEq a]{L:List (a×b)}{k:a}(h:getK k L=none):∀p∈L,p.1≠k:=by
 unfold getK at h;intro p c e;have:=CB.1 (Option.map_eq_none_iff.1 h) p c;simp[e] at this
theorem a9t{a b:Type}[DecidableEq a]{L:List (a×b)}{k:a}(h:getK k L=none):a1K k L=L:=by
 unfold a1K;exact Ce.2 (fun p c=>by simpa using b4b h p c)
theorem a4T{a b:Type}[DecidableEq a](S:Spell a)(x:a×b):∀(L:List (a×b)),(a6O S x L).Perm (x :: L)
 | []=>List.Perm.refl _
 | y :: r=>by
  unfold a6O;split
  ·exact List.Perm.refl _
  ·exact((a4T S x r).cons y).trans (List.Perm.swap x y r)
theorem b0k{l:List (List UInt8×Nat)}{s:List UInt8}(h:getK s l=none)(v k:Nat):nmN (a1w a0L s v l) k=nmN l k+if v=k then 1 else 0:=by
 unfold a1w;have:l.filter (fun p=> !decide (p.1=s))=l:=a9t h;rw[this];have a:=((a4T a0L (s,v) l).map (·.2)).count_eq k;rw[<-a8d];exact a
theorem b0m(k:Nat){s:List UInt8}{v:Nat}:∀ {l:List (List UInt8×Nat)},l.Pairwise (fun p q=>p.1≠q.1)->getK s l=some v->nmN (a1K s l) k+(if v=k then 1 else 0)=nmN l k
 | [],_,h=>by simp[getK] at h
 | y :: r,hu,h=>by
  obtain⟨g,i⟩:=Bc.1 hu;unfold getK at h;rw[List.find?_cons] at h;have f:a1K s (y :: r)=if y.1=s then a1K s r else y :: a1K s r:=by
   unfold a1K;rw[List.filter_cons];by_cases h:y.1=s <;>simp [h]
  rw[f];obtain⟨a,b⟩:=y;rw[a8d];by_cases c:a=s
  ·simp[c] at h;have d:a1K s r=r:=by
    unfold a1K;exact Ce.2 (fun p j=>by simpa using fun e=>g p j (c.trans e.symm))
   rw[Ah c,d,h]
  ·simp[c] at h;rw[Ag c,a8d];have:=b0m k i (l:=r) (s:=s) (v:=v) (by unfold getK;simpa using h);omega
theorem b0l{l:List (List UInt8×Nat)}{s:List UInt8}{k:Nat}(h:getK s l=some k):1<=nmN l k:=by
 unfold nmN;exact List.count_pos_iff.2 (AX.2 ⟨_,a2i h,rfl⟩)
theorem b0F{T:Tr}{i:Nat}{x:It}(h:getK i T=some x)(k:Nat):nmN x.names k<=cntT T k:=by
 have:=a2i h
 induction T with
 | nil=>simp at this
 | cons y r d=>
  rw[a2u];rcases AP.1 this with rfl | c
  ·simp only;omega
  ·have:∀(r:Tr) (p:Nat×It),p∈r->nmN p.2.names k<=cntT r k:=by
    intro r p b
    induction r with
    | nil=>simp at b
    | cons z q a=>
     rw[a2u];rcases AP.1 b with rfl | h3
     ·omega
     ·have:=a h3;omega
   have:=this r _ c;simp only at this;omega
theorem a8a{c f:Type}[DecidableEq c](S:Spell c){k:c}{v:f}{L:List (c×f)}(h:L.Pairwise (fun p q=>p.1≠q.1)):(a1w S k v L).Pairwise (fun p q=>p.1≠q.1):=by
 unfold a1w;refine((a4T S (k,v) (L.filter fun p=> !decide (p.1=k))).pairwise_iff (fun {a b} d=>Ne.symm d)).2 (Bc.2 ⟨fun p g e=>?_,h.filter _⟩);have:=(Ck.1 g).2;simp[<-e] at this
theorem b7k{T:Tr}(h:T.Pairwise (fun p q=>p.1≠q.1))(i:Nat)(x:It):(a01 T i x).Pairwise (fun p q=>p.1≠q.1):=by
 unfold a01;rw[A2];refine h.imp (fun {a b} c=>?_);by_cases d:a.1=i <;>by_cases f:b.1=i <;>simp [d,f] <;>first | (exact fun e=>c (d.trans e)) | (intro e;exact c (e.trans f.symm)) | exact c (d.trans f.symm) | exact c
theorem UqT.set{T:Tr}(h:UqT T){i:Nat}{x':It}(c:x'.names.Pairwise (fun p q=>p.1≠q.1)):UqT (a01 T i x'):=by
 refine⟨b7k h.1 i x',fun j y a=>?_⟩;rw[a0q] at a;by_cases b:j=i
 ·rw[Ah b] at a;obtain⟨_,_,rfl⟩:=AU.1 a;exact c
 ·rw[Ag b] at a;exact h.2 j y a
def EdgeT(T:Tr)(i k:Nat):Prop:=∃x s y,getK i T=some x/\x.n.kind=2/\getK s x.names=some k/\getK k T=some y/\y.n.kind=2
structure TrSh (T:Tr):Prop where
 uq:UqT T
 cnt:∀k x,getK k T=some x->(cntT T k:Int)<=x.n.links
 dir:∀k x,getK k T=some x->x.n.kind=2->x.n.links=1
 hgt:∃h:Nat->Nat,∀i k,EdgeT T i k->h k<h i
theorem b37{E g:Nat->Nat->Prop}(h:Nat->Nat)(o:∀i k,E i k->h k<h i){u d:Nat}(R:Nat->Prop)(m:R u)(l:¬R d)(n:∀i k,E i k->R k->R i)(c:∀i k,g i k->E i k∨(i=u/\k=d)):
  ∃f:Nat->Nat,∀i k,g i k->f k<f i:=by
 classical
 refine⟨fun a=>if R a then h a+h d+1 else h a,fun i k b=>?_⟩;simp only;rcases c i k b with e | ⟨rfl,rfl⟩
 ·have:=o i k e;by_cases hk:R k
  ·rw[Ah hk,Ah (n i k e hk)];omega
  ·rw[Ag hk];by_cases j:R i
   ·rw[Ah j];omega
   ·rw[Ag j];exact this
 ·rw[Ah m,Ag l];omega
theorem a7s(T:Tr)(s:List UInt8)(k:Nat):∀(a:List (List UInt8)) (i:Nat),a0I T i (a ++[s])=(k,0)↔∃j x,a0I T i a=(j,0)/\getK j T=some x/\x.n.kind=2/\getK s x.names=some k
 | [],i=>by
  simp only[AJ,a0I];cases c:getK i T with
  | none=>simp [c]
  | some x=>
   by_cases hk:x.n.kind=2
   ·cases b:getK s x.names with
    | none=>simp [c,hk,b]
    | some d=>simp [c,hk,b]
   ·simp[c,hk]
 | r :: a,i=>by
  simp only[Be,a0I];cases c:getK i T with
  | none=>simp
  | some x=>
   by_cases hk:x.n.kind=2
   ·cases b:getK r x.names with
    | none=>simp [hk,b]
    | some d=>
     simp only[hk,b,BR];exact a7s T s k a d
   ·simp[hk]
theorem a9c(T:Tr):∀(a b:List (List UInt8)) (i j:Nat),a0I T i a=(j,0)->a0I T i (a ++b)=a0I T j b
 | [],b,i,j,h=>by simp only[a0I,Cg,and_true] at h;rw[<-h];rfl
 | s :: a,b,i,j,h=>by
  simp only[Be,a0I] at h⊢;cases d:getK i T with
  | none=>rw [d] at h;simp at h
  | some x=>
   rw[d] at h;simp only at h⊢;by_cases hk:x.n.kind=2
   ·rw[Ah hk] at h⊢;cases c:getK s x.names with
    | none=>rw [c] at h;simp at h
    | some e=>
     rw[c] at h;exact a9c T a b e j h
   ·rw[Ag hk] at h;simp at h
theorem a2Y{T:Tr}{p:List (List UInt8)}{k:Nat}(h:a0I T 0 p=(k,0))(b:k≠0∨p≠[]):∃u x s,a02 T p=(u,0)/\p=p.dropLast ++[s]/\p.getLast?.getD []=s/\a0I T 0 p.dropLast=(u,0)/\getK u T=some x/\x.n.kind=2/\getK s x.names=some k:=by
 have a:p≠[]:=by
  rcases b with b | b
  ·intro e;rw[e] at h;simp[a0I] at h;exact b h.symm
  ·exact b
 have f:p=p.dropLast ++[p.getLast a]:=(List.dropLast_concat_getLast a).symm;have i:=h;rw[f] at i;obtain⟨j,x,h3,c,d,l⟩:=(a7s T _ k _ 0).1 i;have g:p.getLast? =some (p.getLast a):=List.getLast?_eq_some_getLast a;refine⟨j,x,p.getLast a,?_,f,by rw[g];rfl,h3,c,d,l⟩;unfold a02;rw[g,h3];simp[c,d]
theorem b7Z{T:Tr}(h:UqT T){i j k:Nat}{x y:It}{s r:List UInt8}(d:getK i T=some x)(q:getK s x.names=some k)(a:getK j T=some y)(l:getK r y.names=some k)(f:¬(i=j/\s=r)):2<=cntT T k:=by
 have o:=a2F k h.1 (i:=i) (x:=x) ⟨x.n,x.b,a1K s x.names⟩ d;have p:=b0m k (h.2 i x d) q;rw[Ah rfl] at p;simp only at o;have h3:1<=cntT (a01 T i ⟨x.n,x.b,a1K s x.names⟩) k:=by
  by_cases c:i=j
  ·subst c;rw[d] at a;injection a with a;subst a
   have g:getK i (a01 T i ⟨x.n,x.b,a1K s x.names⟩)=some ⟨x.n,x.b,a1K s x.names⟩:=by rw[a0q,Ah rfl,d];rfl
   have m:getK r (a1K s x.names)=some k:=by rw[a1j,Ag (fun e=>f ⟨rfl,e.symm⟩)];exact l
   have:=b0F g k;have:=b0l m;simp only at *;omega
  ·have g:getK j (a01 T i ⟨x.n,x.b,a1K s x.names⟩)=some y:=by rw[a0q,Ag (fun e=>c e.symm)];exact a
   have:=b0F g k;have:=b0l l;omega
 omega
theorem b7u{c:Nat}{T:Tr}(i:TrOk c T)(m:TrSh T):∀(n:Nat) (a b:List (List UInt8)) (k:Nat) (x:It),a.length<=n->a0I T 0 a=(k,0)->a0I T 0 b=(k,0)->getK k T=some x->x.n.kind=2->a=b:=by
 intro n
 induction n with
 | zero=>
  intro a b k x q e h p hk;obtain rfl:a=[]:=Ax.1 (by omega);simp only[a0I,Cg,and_true] at e;subst e;by_cases hb0:b=[]
  ·exact hb0.symm
  ·obtain⟨u,y,s,_,_,_,_,d,_,f⟩:=a2Y h (.inr hb0);exact absurd rfl (i.nm u y s 0 d f).2.1
 | succ n A=>
  intro a b k x q e h p hk;by_cases g:a=[]
  ·subst g;simp only[a0I,Cg,and_true] at e;subst e;by_cases hb0:b=[]
   ·exact hb0.symm
   ·obtain⟨u,y,s,_,_,_,_,d,_,f⟩:=a2Y h (.inr hb0);exact absurd rfl (i.nm u y s 0 d f).2.1
  ·obtain⟨u,y,s,_,t,_,h3,d,D,f⟩:=a2Y e (.inr g);have j:=(i.nm u y s k d f).2.1;obtain⟨v,z,r,_,B,_,E,w,G,C⟩:=a2Y h (.inl j);have F:=m.cnt k x p;rw[m.dir k x p hk] at F;have:u=v/\s=r:=Classical.byContradiction fun l=>by
    have:=b7Z m.uq d f w C l;omega
   obtain⟨rfl,rfl⟩:=this;have o:a.dropLast.length<=n:=by rw[List.length_dropLast];omega
   rw[t,B,A _ _ u y o h3 E d D]
theorem TrOk.names{c r:Nat}{T:Tr}(h:TrOk c T){i:Nat}{x:It}{l:List (List UInt8×Nat)}(f:getK i T=some x)(C:c<=r)(A:l.length<=r)(v:∀s k,getK s l=some k->(∃y,getK k T=some y)/\k≠0/\s.length<=16):TrOk r (a01 T i ⟨x.n,x.b,l⟩):=by
 have d:∀k,(∃z,getK k T=some z)->∃z,getK k (a01 T i ⟨x.n,x.b,l⟩)=some z:=fun k ⟨z,w⟩=>by
  rw[a0q];by_cases p:k=i
  ·subst p;exact⟨⟨x.n,x.b,l⟩,by rw[Ah rfl,f];rfl⟩
  ·exact⟨z,by rw[Ag p];exact w⟩
 refine⟨?_,fun j y a=>?_,fun j y s k a u=>?_,by rw[a4k];exact h.len⟩
 ·obtain⟨y,a,m⟩:=h.root;rw[a0q];by_cases t:0=i
  ·subst t;rw[f] at a;injection a with a;subst a
   exact⟨⟨x.n,x.b,l⟩,by rw[Ah rfl,f];rfl,m⟩
  ·exact⟨y,by rw[Ag t];exact a,m⟩
 ·rw[a0q] at a;by_cases g:j=i
  ·subst g;rw[Ah rfl,f] at a;injection a with a;subst a
   obtain⟨o,e,h3,q,_⟩:=h.nd j x f;exact⟨by omega,e,h3,q,A⟩
  ·rw[Ag g] at a;obtain⟨o,e,h3,q,B⟩:=h.nd j y a;exact⟨by omega,e,h3,q,by omega⟩
 ·rw[a0q] at a;by_cases g:j=i
  ·subst g;rw[Ah rfl,f] at a;injection a with a;subst a
   obtain⟨o,e⟩:=v s k u;exact⟨d k o,e⟩
  ·rw[Ag g] at a;obtain⟨o,e⟩:=h.nm j y s k a u;exact⟨d k o,e⟩
theorem a8q{a b:Type}[DecidableEq a](k:a)(L:List (a×b)):(a1K k L).length<=L.length:=List.length_filter_le ..
theorem TrOk.delName{c:Nat}{T:Tr}(h:TrOk c T){i:Nat}{x:It}(d:getK i T=some x)(s:List UInt8):TrOk c (a01 T i ⟨x.n,x.b,a1K s x.names⟩):=
 h.names d (Aa _) (Ad (a8q _ _) (h.nd i x d).2.2.2.2) (fun r k a=>by
  rw[a1j] at a;by_cases e:r=s
  ·rw[Ah e] at a;cases a
  ·rw[Ag e] at a;exact h.nm i x r k d a)
theorem TrOk.putName{c:Nat}{T:Tr}(h:TrOk c T){i k:Nat}{x y:It}(d:getK i T=some x)(f:getK k T=some y)(hk:k≠0){s:List UInt8}(g:s.length<=16):TrOk (c+1) (a01 T i ⟨x.n,x.b,a1w a0L s k x.names⟩):=
 h.names d (As _) (Ad (b0e a0L s k x.names) (Nat.succ_le_succ (h.nd i x d).2.2.2.2)) (fun r m a=>by
  rw[a1v] at a;by_cases e:r=s
  ·rw[Ah e] at a;injection a with a;subst a;exact⟨⟨y,f⟩,hk,by rw[e];exact g⟩
  ·rw[Ag e] at a;exact h.nm i x r m d a)
theorem b6G{c:Nat}{T:Tr}(h:TrOk c T)(a:UqT T){k:Nat}(hk:getK k T=none):cntT T k=0:=by
 have j:∀(r:Tr),(∀p∈r,p∈T)->cntT r k=0:=by
  intro r f
  induction r with
  | nil=>rfl
  | cons y q g=>
   rw[a2u,g (fun p m=>f p (AI _ m))];have b:=a0s a.1 (k:=y.1) (v:=y.2) (f y (AL ..));unfold nmN;rw[BT];refine List.count_eq_zero.2 fun i=>?_
   obtain⟨q,l,e⟩:=AX.1 i;obtain⟨⟨z,d⟩,_⟩:=h.nm y.1 y.2 q.1 k b (a0s (a.2 _ _ b) (v:=k) (by rw[<-e];exact l));rw[hk] at d;cases d
 exact j T (fun _ h=>h)
theorem TrOk.del{c:Nat}{T:Tr}(h:TrOk c T){i:Nat}(m:i≠0)(n:cntT T i=0):TrOk c (a1K i T):=by
 refine⟨?_,fun j y a=>?_,fun j y s k a f=>?_,Ad (a8q _ _) h.len⟩
 ·obtain⟨y,a,d⟩:=h.root;exact⟨y,by rw[a1j,Ag (fun e=>m e.symm)];exact a,d⟩
 ·rw[a1j] at a;by_cases b:j=i
  ·rw[Ah b] at a;cases a
  ·rw[Ag b] at a;exact h.nd j y a
 ·rw[a1j] at a;by_cases b:j=i
  ·rw[Ah b] at a;cases a
  ·rw[Ag b] at a;obtain⟨⟨z,g⟩,l⟩:=h.nm j y s k a f;refine⟨⟨z,?_⟩,l⟩;rw[a1j,Ag]
   ·exact g
   ·rintro rfl;have:=b0F a k;have:=b0l f;omega
theorem EdgeT.del{T:Tr}{i a b:Nat}(h:EdgeT (a1K i T) a b):EdgeT T a b:=by
 obtain⟨x,s,y,c,g,j,h3,f⟩:=h;rw[a1j] at c h3;by_cases d:a=i
 ·rw[Ah d] at c;cases c
 ·by_cases e:b=i
  ·rw[Ah e] at h3;cases h3
  ·rw[Ag d] at c;rw[Ag e] at h3;exact⟨x,s,y,c,g,j,h3,f⟩
theorem EdgeT.set{T:Tr}{i a b:Nat}{x x':It}(f:getK i T=some x)(hk:x'.n.kind=x.n.kind)(h:EdgeT (a01 T i x') a b):EdgeT T a b∨(a=i/\(∃s,getK s x'.names=some b/\getK s x.names≠some b)/\∃y,getK b T=some y/\y.n.kind=2):=by
 obtain⟨z,s,y,d,l,o,h3,k⟩:=h;have c:∃y,getK b T=some y/\y.n.kind=2:=by
  rw[a0q] at h3;by_cases j:b=i
  ·rw[Ah j,f] at h3;injection h3 with h3;subst h3;exact⟨x,by rw[j];exact f,by rw[<-hk];exact k⟩
  ·rw[Ag j] at h3;exact⟨y,h3,k⟩
 rw[a0q] at d;by_cases e:a=i
 ·rw[Ah e,f] at d;injection d with d;subst d
  by_cases m:getK s x.names=some b
  ·obtain⟨y,c,g⟩:=c;exact .inl ⟨x,s,y,by rw[e];exact f,by rw[<-hk];exact l,m,c,g⟩
  ·exact .inr ⟨e,⟨s,o,m⟩,c⟩
 ·rw[Ag e] at d;obtain⟨y,c,g⟩:=c;exact .inl ⟨z,s,y,d,l,o,c,g⟩
theorem EdgeT.same{T:Tr}{i a b:Nat}{x x':It}(f:getK i T=some x)(hk:x'.n.kind=x.n.kind)(d:x'.names=x.names)(h:EdgeT (a01 T i x') a b):EdgeT T a b:=by
 rcases h.set f hk with h | ⟨_,⟨s,c,e⟩,_⟩
 ·exact h
 ·rw[d] at c;exact absurd c e
theorem EdgeT.delN{T:Tr}{i a b:Nat}{x:It}{s:List UInt8}(f:getK i T=some x)(h:EdgeT (a01 T i ⟨x.n,x.b,a1K s x.names⟩) a b):EdgeT T a b:=by
 rcases h.set (x':=⟨x.n,x.b,a1K s x.names⟩) f rfl with h | ⟨_,⟨r,c,d⟩,_⟩
 ·exact h
 ·simp only at c;rw[a1j] at c;by_cases e:r=s
  ·rw[Ah e] at c;cases c
  ·rw[Ag e] at c;exact absurd c d
theorem EdgeT.putN{T:Tr}{i k a b:Nat}{x:It}{s:List UInt8}(g:getK i T=some x)(h:EdgeT (a01 T i ⟨x.n,x.b,a1w a0L s k x.names⟩) a b):EdgeT T a b∨(a=i/\b=k/\∃y,getK k T=some y/\y.n.kind=2):=by
 rcases h.set (x':=⟨x.n,x.b,a1w a0L s k x.names⟩) g rfl with h | ⟨d,⟨r,c,f⟩,h3⟩
 ·exact .inl h
 ·simp only at c;rw[a1v] at c;by_cases e:r=s
  ·rw[Ah e] at c;injection c with c;subst c;exact .inr ⟨d,rfl,h3⟩
  ·rw[Ag e] at c;exact absurd c f
theorem TrSh.set{T:Tr}(d:TrSh T){i:Nat}{x x':It}(f:getK i T=some x)(hk:x'.n.kind=x.n.kind)(p:x'.n.links=x.n.links)(j:x'.names=x.names):TrSh (a01 T i x'):=by
 have r:∀k,cntT (a01 T i x') k=cntT T k:=fun k=>by
  have:=a2F k d.uq.1 x' f;rw[j] at this;omega
 have o:∀k y,getK k (a01 T i x')=some y->∃z,getK k T=some z/\z.n.links=y.n.links/\z.n.kind=y.n.kind:=fun k y c=>by
  rw[a0q] at c;by_cases h:k=i
  ·rw[Ah h,f] at c;injection c with c;subst c;exact⟨x,by rw[h];exact f,p.symm,hk.symm⟩
  ·rw[Ag h] at c;exact⟨y,c,rfl,rfl⟩
 obtain⟨h,q⟩:=d.hgt;refine⟨d.uq.set (by rw[j];exact d.uq.2 i x f),fun k y c=>?_,fun k y c g=>?_,h,fun a b e=>q a b (e.same f hk j)⟩
 ·obtain⟨z,l,m,_⟩:=o k y c;rw[r,<-m];exact d.cnt k z l
 ·obtain⟨z,l,m,h3⟩:=o k y c;rw[<-m];exact d.dir k z l (h3.trans g)
theorem UqT.del{T:Tr}(h:UqT T)(i:Nat):UqT (a1K i T):=
 ⟨h.1.filter _,fun j y a=>by
  rw[a1j] at a;by_cases e:j=i
  ·rw[Ah e] at a;cases a
  ·rw[Ag e] at a;exact h.2 j y a⟩
theorem TrSh.del{T:Tr}(d:TrSh T)(i:Nat):TrSh (a1K i T):=by
 have f:∀k y,getK k (a1K i T)=some y->getK k T=some y:=fun k y c=>by
  rw[a1j] at c;by_cases e:k=i
  ·rw[Ah e] at c;cases c
  ·rw[Ag e] at c;exact c
 obtain⟨h,g⟩:=d.hgt;exact⟨d.uq.del i,fun k y c=>by have:=d.cnt k y (f k y c);have:=a8u i k T;omega,fun k y c=>d.dir k y (f k y c),h,fun a b e=>g a b e.del⟩
def TGd(c:Nat)(T:Tr):Prop:=TrOk c T/\TrSh T
theorem TGd.mono{c a:Nat}{T:Tr}(h:TGd c T)(b:c<=a):TGd a T:=⟨h.1.mono b,h.2⟩
theorem TGd.set{c:Nat}{T:Tr}(h:TGd c T){i:Nat}{x x':It}(e:getK i T=some x)(hk:x'.n.kind=x.n.kind)(hid:x'.n.id=x.n.id)(f:x'.n.links=x.n.links)(a:x'.n.Ok)(g:(x'.b.length:Int)=x'.n.size)(d:x'.names=x.names):TGd c (a01 T i x'):=
 ⟨h.1.set e hk hid a g d,h.2.set e hk f d⟩
theorem TGd.del{c:Nat}{T:Tr}(h:TGd c T){i:Nat}(b:i≠0)(a:cntT T i=0):TGd c (a1K i T):=⟨h.1.del b a,h.2.del i⟩
theorem TGd.root1{c:Nat}{T:Tr}(h:TGd c T){i:Nat}{x:It}(d:getK i T=some x)(hk:x.n.kind≠2):i≠0:=by
 rintro rfl;obtain⟨y,a,b⟩:=h.1.root;rw[d] at a;injection a with a;subst a;exact hk b
def a2a(n:Nd)(l:Int):Nd:=⟨n.id,n.kind,l,n.size,n.til,n.closed⟩
theorem a8X{n:Nd}(h:n.Ok)(l:Int)(a:0<=l/\l<=65535):(a2a n l).Ok:=by
 obtain⟨d,b,_,_,c⟩:=h;exact⟨d,b,a.1,a.2,c⟩
theorem TGd.link{c:Nat}{T:Tr}(h:TGd c T){i u:Nat}{x y:It}{s:List UInt8}(g:getK i T=some x)(hk:x.n.kind=1)(l:getK u T=some y)(q:y.n.kind=2)(F:getK s y.names=none)(t:s.length<=16)(I:x.n.links<64):
  TGd (c+1) (a01 (a01 T u ⟨y.n,y.b,a1w a0L s i y.names⟩) i ⟨a2a x.n (x.n.links+1),x.b,x.names⟩):=by
 have A:i≠u:=fun e=>by rw[e,l] at g;injection g with g;rw[g] at q;omega
 have r:=h.root1 g (by omega);have j:getK i (a01 T u ⟨y.n,y.b,a1w a0L s i y.names⟩)=some x:=by rw[a0q,Ag A];exact g
 obtain⟨_,_,o,E,_⟩:=h.1.nd i x g;refine⟨(h.1.putName l g r t).set (x':=⟨a2a x.n (x.n.links+1),x.b,x.names⟩) j rfl rfl (a8X o _ (by obtain⟨_,_,h3,_⟩:=o;omega)) E rfl,?_⟩;have p:UqT (a01 T u ⟨y.n,y.b,a1w a0L s i y.names⟩):=h.2.uq.set (a8a a0L (h.2.uq.2 u y l));have H:∀k,cntT (a01 (a01 T u ⟨y.n,y.b,a1w a0L s i y.names⟩) i ⟨a2a x.n (x.n.links+1),x.b,x.names⟩) k=cntT T k+if i=k then 1 else 0:=fun k=>by
  have f:=a2F k h.2.uq.1 ⟨y.n,y.b,a1w a0L s i y.names⟩ l;have w:=a2F k p.1 ⟨a2a x.n (x.n.links+1),x.b,x.names⟩ j;have h3:=b0k F i k;simp only at f w;omega
 have B:∀k z,getK k (a01 (a01 T u ⟨y.n,y.b,a1w a0L s i y.names⟩) i ⟨a2a x.n (x.n.links+1),x.b,x.names⟩)=some z->∃m,getK k T=some m/\z.n.kind=m.n.kind/\z.n.links=m.n.links+if i=k then 1 else 0:=fun k z d=>by
  rw[a0q] at d;by_cases e:k=i
  ·rw[Ah e,j] at d;injection d with d;subst d e
   exact⟨x,g,rfl,by simp[a2a]⟩
  ·rw[Ag e,a0q] at d;rw[Ag (fun h=>e h.symm)];by_cases v:k=u
   ·rw[Ah v,l] at d;injection d with d;subst d;exact⟨y,by rw[v];exact l,rfl,by simp⟩
   ·rw[Ag v] at d;exact⟨z,d,rfl,by simp⟩
 obtain⟨D,C⟩:=h.2.hgt;refine⟨p.set (h.2.uq.2 i x g),fun k z d=>?_,fun k z d G=>?_,D,fun a b e=>?_⟩
 ·obtain⟨m,f,_,h3⟩:=B k z d;have:=h.2.cnt k m f;rw[H,h3];by_cases e:i=k <;>simp [e] at * <;>omega
 ·obtain⟨m,f,w,h3⟩:=B k z d;rw[h3,Ag,h.2.dir k m f (by omega)]
  ·rfl
  ·rintro rfl;rw[g] at f;injection f with f;subst f;omega
 ·rcases(e.same (x':=⟨a2a x.n (x.n.links+1),x.b,x.names⟩) j rfl rfl).putN l with e | ⟨_,_,z,f,w⟩
  ·exact C a b e
  ·rw[g] at f;injection f with f;subst f;omega
theorem b0D{c:Nat}{T:Tr}(h:TGd c T){i u:Nat}{y:It}{s:List UInt8}(f:getK u T=some y)(r:getK s y.names=some i):TGd c (a01 T u ⟨y.n,y.b,a1K s y.names⟩)/\∀k,cntT (a01 T u ⟨y.n,y.b,a1K s y.names⟩) k+(if i=k then 1 else 0)=cntT T k:=by
 have m:∀k,cntT (a01 T u ⟨y.n,y.b,a1K s y.names⟩) k+(if i=k then 1 else 0)=cntT T k:=fun k=>by
  have g:=a2F k h.2.uq.1 ⟨y.n,y.b,a1K s y.names⟩ f;have l:=b0m k (h.2.uq.2 u y f) r;simp only at g;omega
 have o:∀k z,getK k (a01 T u ⟨y.n,y.b,a1K s y.names⟩)=some z->∃z',getK k T=some z'/\z.n=z'.n:=fun k z d=>by
  rw[a0q] at d;by_cases e:k=u
  ·rw[Ah e,f] at d;injection d with d;subst d;exact⟨y,by rw[e];exact f,rfl⟩
  ·rw[Ag e] at d;exact⟨z,d,rfl⟩
 obtain⟨q,p⟩:=h.2.hgt;refine⟨⟨h.1.delName f s,h.2.uq.set ((h.2.uq.2 u y f).filter _),fun k z d=>?_,fun k z d j=>?_,q,fun a b e=>p a b (e.delN f)⟩,m⟩
 ·obtain⟨z',g,l⟩:=o k z d;have:=h.2.cnt k z' g;have:=m k;rw[l];omega
 ·obtain⟨z',g,l⟩:=o k z d;rw[l] at j ⊢;exact h.2.dir k z' g j
theorem TGd.unlink{c:Nat}{T:Tr}(h:TGd c T){i u:Nat}{x y:It}{s:List UInt8}(j:getK i T=some x)(hk:x.n.kind=1)(v:getK u T=some y)(o:y.n.kind=2)(D:getK s y.names=some i):
  1<=x.n.links/\getK i (a01 T u ⟨y.n,y.b,a1K s y.names⟩)=some x/\TGd c (a01 (a01 T u ⟨y.n,y.b,a1K s y.names⟩) i ⟨a2a x.n (x.n.links - 1),x.b,x.names⟩):=by
 have p:i≠u:=fun e=>by rw[e,v] at j;injection j with j;rw[j] at o;omega
 obtain⟨g,q⟩:=b0D h v D;have d:getK i (a01 T u ⟨y.n,y.b,a1K s y.names⟩)=some x:=by rw[a0q,Ag p];exact j
 have w:1<=x.n.links:=by
  have:=h.2.cnt i x j;have:=q i;rw[Ah rfl] at this;omega
 refine⟨w,d,?_⟩;generalize a01 T u ⟨y.n,y.b,a1K s y.names⟩=t at g q d;obtain⟨_,_,l,B,_⟩:=g.1.nd i x d;refine⟨g.1.set (x':=⟨a2a x.n (x.n.links - 1),x.b,x.names⟩) d rfl rfl (a8X l _ (by obtain⟨_,_,h3,E,_⟩:=l;omega)) B rfl,?_⟩;have r:∀k,cntT (a01 t i ⟨a2a x.n (x.n.links - 1),x.b,x.names⟩) k=cntT t k:=fun k=>by
  have:=a2F k g.2.uq.1 ⟨a2a x.n (x.n.links - 1),x.b,x.names⟩ d;simp only at this;omega
 obtain⟨C,A⟩:=g.2.hgt;refine⟨g.2.uq.set (g.2.uq.2 i x d),fun k z f=>?_,fun k z f m=>?_,C,fun a b e=>A a b (e.same (x':=⟨a2a x.n (x.n.links - 1),x.b,x.names⟩) d rfl rfl)⟩
 ·rw[r];rw[a0q] at f;by_cases e:k=i
  ·rw[Ah e,d] at f;injection f with f;subst f e
   have:=h.2.cnt k x j;have:=q k;rw[Ah rfl] at this;simp only[a2a];omega
  ·rw[Ag e] at f;exact g.2.cnt k z f
 ·rw[a0q] at f;by_cases e:k=i
  ·rw[Ah e,d] at f;injection f with f;subst f
   simp only[a2a] at m;omega
  ·rw[Ag e] at f;exact g.2.dir k z f m
theorem TGd.settle{c:Nat}{T:Tr}(h:TGd c T){i:Nat}{x:It}(a:getK i T=some x)(hk:x.n.kind=1)(b:x.n.links=0):TGd c (a1K i T):=
 h.del (h.root1 a (by omega)) (by have:=h.2.cnt i x a;omega)
theorem TGd.rmdir{c:Nat}{T:Tr}(h:TGd c T){i u:Nat}{x y:It}{s:List UInt8}(a:getK i T=some x)(hk:x.n.kind=2)(k:i≠0)(d:getK u T=some y)(g:getK s y.names=some i):TGd c (a1K i (a01 T u ⟨y.n,y.b,a1K s y.names⟩)):=by
 obtain⟨f,j⟩:=b0D h d g;refine f.del k ?_;have:=j i;have e:=h.2.cnt i x a;rw[h.2.dir i x a hk] at e;rw[Ah rfl] at this;omega
theorem TGd.rename{c:Nat}{T:Tr}(h:TGd c T){i o u:Nat}{x y z:It}{s r:List UInt8}{p F:List (List UInt8)}(B:getK i T=some x)(Z:i≠0)(Y:a0I T 0 p=(i,0))(C:getK o T=some y)(hs:getK s y.names=some i)
  (A:getK u T=some z) (X:a0I T 0 F.dropLast=(u,0)) (D:z.n.kind=2) (W:getK r z.names=none) (O:r.length<=16) (hw:x.n.kind=2->¬p <+:F):
  ∃f,getK u (a01 T o ⟨y.n,y.b,a1K s y.names⟩)=some f/\f.n.kind=2/\TGd (c+1) (a01 (a01 T o ⟨y.n,y.b,a1K s y.names⟩) u ⟨f.n,f.b,a1w a0L r i f.names⟩):=by
 obtain⟨t,Q⟩:=b0D h C hs;have L:∃f,getK u (a01 T o ⟨y.n,y.b,a1K s y.names⟩)=some f/\f.n=z.n/\getK r f.names=none:=by
  rw[a0q];by_cases e:u=o
  ·subst e;rw[C] at A;injection A with A;subst A
   exact⟨⟨y.n,y.b,a1K s y.names⟩,by rw[Ah rfl,C];rfl,rfl,by
    rw[a1j];by_cases e:r=s
    ·rw[Ah e]
    ·rw[Ag e];exact W⟩
  ·exact⟨z,by rw[Ag e];exact A,rfl,W⟩
 have N:∃I,getK i (a01 T o ⟨y.n,y.b,a1K s y.names⟩)=some I/\I.n=x.n:=by
  rw[a0q];by_cases e:i=o
  ·subst e;rw[C] at B;injection B with B;subst B
   exact⟨⟨y.n,y.b,a1K s y.names⟩,by rw[Ah rfl,C];rfl,rfl⟩
  ·exact⟨x,by rw[Ag e];exact B,rfl⟩
 obtain⟨f,j,k2,k3⟩:=L;obtain⟨I,H,V⟩:=N;have m:∀a b,EdgeT (a01 T o ⟨y.n,y.b,a1K s y.names⟩) a b->EdgeT T a b:=fun a b e=>e.delN C
 generalize a01 T o ⟨y.n,y.b,a1K s y.names⟩=K at t Q j H m⊢;refine⟨f,j,by rw[k2];exact D,t.1.putName j H Z O,?_⟩;have M:∀k,cntT (a01 K u ⟨f.n,f.b,a1w a0L r i f.names⟩) k=cntT T k:=fun k=>by
  have g:=a2F k t.2.uq.1 ⟨f.n,f.b,a1w a0L r i f.names⟩ j;have h3:=b0k k3 i k;have:=Q k;simp only at g;omega
 have U:∀k v,getK k (a01 K u ⟨f.n,f.b,a1w a0L r i f.names⟩)=some v->∃v',getK k K=some v'/\v.n=v'.n:=fun k v hv=>by
  rw[a0q] at hv;by_cases e:k=u
  ·rw[Ah e,j] at hv;injection hv with hv;subst hv;exact⟨f,by rw[e];exact j,rfl⟩
  ·rw[Ag e] at hv;exact⟨v,hv,rfl⟩
 refine⟨t.2.uq.set (a8a a0L (t.2.uq.2 u f j)),fun k v hv=>?_,fun k v hv G=>?_,?_⟩
 ·obtain⟨v',g,h3⟩:=U k v hv;rw[M,h3];have:=t.2.cnt k v' g;by_cases e:i=k
  ·subst e;rw[H] at g;injection g with g;subst g
   rw[V];exact h.2.cnt i x B
  ·have:=Q k;rw[Ag e] at this;omega
 ·obtain⟨v',g,h3⟩:=U k v hv;rw[h3] at G ⊢;exact t.2.dir k v' g G
 ·obtain⟨S,R⟩:=h.2.hgt;by_cases hk:x.n.kind=2
  ·refine b37 (E:=EdgeT T) S R (u:=u) (d:=i) (fun a=>∃q,a0I T a q=(u,0)) ⟨[],rfl⟩ (fun⟨q,J⟩=>hw hk ?_) (fun a b e ⟨q,J⟩=>?_) (fun a b e=>?_)
   ·have g:=a9c T p q 0 i Y;rw[J] at g;have:=b7u h.1 h.2 _ (p ++q) F.dropLast u z (Aa _) g X A D;exact⟨q ++F.drop F.dropLast.length,by rw[<-List.append_assoc,this];rw[List.dropLast_eq_take];simp[List.take_append_drop]⟩
   ·obtain⟨va,sa,vb,l,P,w,e3,e4⟩:=e;exact⟨sa :: q,by simp only[a0I,l,P,BR,w];exact J⟩
   ·rcases e.putN j with e | ⟨l,w,_⟩
    ·exact .inl (m a b e)
    ·exact .inr ⟨l,w⟩
  ·refine⟨S,fun a b e=>R a b ?_⟩;rcases e.putN j with e | ⟨_,_,v,l,w⟩
   ·exact m a b e
   ·rw[H] at l;injection l with l;subst l;rw[V] at w;exact absurd w hk
theorem b5E{T:Tr}(h:UqT T){i:Nat}{x:It}(b:x.names.Pairwise (fun p q=>p.1≠q.1)):UqT (a1w numS i x T):=
 ⟨a8a numS h.1,fun j y a=>by
  rw[a1v] at a;by_cases e:j=i
  ·rw[Ah e] at a;injection a with a;subst a;exact b
  ·rw[Ag e] at a;exact h.2 j y a⟩
theorem b6H{T:Tr}{i:Nat}(h:getK i T=none)(x:It)(k:Nat):cntT (a1w numS i x T) k=cntT T k+nmN x.names k:=by
 have a:∀ {A B:Tr},A.Perm B->cntT A k=cntT B k:=fun {A B} a=>(a.map _).sum_nat
 unfold a1w;have e:T.filter (fun p=> !decide (p.1=i))=T:=a9t h;rw[e,a (a4T numS (i,x) T),a2u,Nat.add_comm]
theorem TGd.make{c:Nat}{T:Tr}(h:TGd c T)(p:List (List UInt8))(f:Nat)(hk:f=1∨f=2)(I:c<=60000):TGd (c+1) (a3D c T p f).2.2:=by
 refine⟨b54 h.1 p f hk I,?_⟩;unfold a3D;by_cases K:fineP p≠0
 ·rw[Ah K];exact h.2
 rw[Ag K];by_cases P:(a02 T p).2≠0
 ·rw[Ah P];exact h.2
 rw[Ag P];obtain⟨x,t,V,_⟩:=a3i h.1 p (by omega);simp only[t];by_cases h3:(getK (p.getLast?.getD []) x.names).isSome
 ·rw[Ah h3];exact h.2
 rw[Ag h3];by_cases O:64<=T.length
 ·rw[Ah O];exact h.2
 rw[Ag O];obtain⟨m,U,Q⟩:=a3k h.1 (c+1) 1 (by omega) (by omega);generalize a2p T (c+1) 1=id at m U Q;generalize(a02 T p).1=u at t;generalize p.getLast?.getD []=s at h3⊢;have v:u≠id:=fun e=>by rw[e,m] at t;cases t
 have X:getK s x.names=none:=by simpa using h3
 have H:∀j,getK j (a1w numS id (a0n id f) T)=if j=id then some (a0n id f) else getK j T:=fun j=>a1v numS id j _ T
 have w:UqT (a1w numS id (a0n id f) T):=b5E h.2.uq List.Pairwise.nil;have o:getK u (a1w numS id (a0n id f) T)=some x:=by rw[H,Ag v];exact t
 have I:∀k,cntT (a01 (a1w numS id (a0n id f) T) u ⟨x.n,x.b,a1w a0L s id x.names⟩) k=cntT T k+if id=k then 1 else 0:=fun k=>by
  have Z:=a2F k w.1 ⟨x.n,x.b,a1w a0L s id x.names⟩ o;have h6:=b6H m (a0n id f) k;have h7:=b0k X id k;have h8:nmN (a0n id f).names k=0:=rfl;simp only at Z;omega
 have M:∀k z,getK k (a01 (a1w numS id (a0n id f) T) u ⟨x.n,x.b,a1w a0L s id x.names⟩)=some z->(k=id/\z=a0n id f)∨∃z',getK k T=some z'/\z.n=z'.n:=fun k z i=>by
  rw[a0q] at i;by_cases e:k=u
  ·rw[Ah e,o] at i;injection i with i;subst i;exact .inr ⟨x,by rw[e];exact t,rfl⟩
  ·rw[Ag e,H] at i;by_cases l:k=id
   ·rw[Ah l] at i;injection i with i;exact .inl ⟨l,i.symm⟩
   ·rw[Ag l] at i;exact .inr ⟨z,i,rfl⟩
 have G:∀a b,EdgeT (a1w numS id (a0n id f) T) a b->EdgeT T a b:=fun a b ⟨z,r,y,g,l,D,F,Y⟩=>by
  rw[H] at g F;by_cases N:a=id
  ·rw[Ah N] at g;injection g with g;subst g;simp[a0n,getK] at D
  ·rw[Ag N] at g;obtain⟨⟨y',A⟩,_⟩:=h.1.nm a z r b g D;by_cases L:b=id
   ·rw[L,m] at A;cases A
   ·rw[Ag L] at F;exact⟨z,r,y,g,l,D,F,Y⟩
 obtain⟨S,R⟩:=h.2.hgt;refine⟨w.set (a8a a0L (h.2.uq.2 u x t)),fun k z i=>?_,fun k z i B=>?_,?_⟩
 ·rw[I];rcases M k z i with⟨e,rfl⟩ | ⟨z',g,l⟩
  ·subst e;rw[b6G h.1 h.2.uq m,Ah rfl];exact Int.le_refl _
  ·rw[Ag (fun e=>by rw[<-e,m] at g;cases g),l];exact h.2.cnt k z' g
 ·rcases M k z i with⟨e,rfl⟩ | ⟨z',g,l⟩
  ·rfl
  ·rw[l] at B ⊢;exact h.2.dir k z' g B
 ·refine b37 (E:=EdgeT T) S R (u:=u) (d:=id) (fun a=>∃q,a0I T a q=(u,0)) ⟨[],rfl⟩ (fun⟨q,C⟩=>?_) (fun a b e ⟨q,C⟩=>?_) (fun a b e=>?_)
  ·cases q with
   | nil=>simp only[a0I,Cg,and_true] at C;exact v C.symm
   | cons r q=>simp [a0I,m] at C
  ·obtain⟨va,W,vb,g,J,l,D,F⟩:=e;exact⟨W :: q,by simp only[a0I,g,J,BR,l];exact C⟩
  ·rcases e.putN o with e | ⟨g,l,_⟩
   ·exact .inl (G a b e)
   ·exact .inr ⟨g,l⟩
theorem b0B{c:Nat}{T:Tr}(h:TGd c T){i:Nat}{x:It}(d:getK i T=some x)(e:¬fileT T i≠0):x.n.kind=1/\0<=x.n.size/\x.n.size<=4096/\x.n.til<=MTn/\(x.b.length:Int)=x.n.size:=by
 obtain⟨_,_,⟨_,_,_,_,a⟩,f,_⟩:=h.1.nd i x d;rcases a with a | a
 ·exact⟨a.1,a.2.1,a.2.2.1,a.2.2.2,f⟩
 ·exfalso;exact e (by simp[fileT,d,a.1])
theorem b7C{n:Nd}(h:n.Ok)(hk:n.kind=1){s:Int}(a:0<=s/\s<=4096){u:Nat}(e:u<=MTn)(c:Bool):Nd.Ok ⟨n.id,n.kind,n.links,s,u,c⟩:=by
 obtain⟨d,b,f,g,_⟩:=h;exact⟨d,b,f,g,.inl ⟨hk,a.1,a.2,e⟩⟩
theorem TGd.kept{c:Nat}{T:Tr}(h:TGd c T)(i u:Nat):TGd c (a3z T i u).2:=by
 unfold a3z;by_cases a:fileT T i≠0
 ·rw[Ah a];exact h
 rw[Ag a];cases b:getK i T with
 | none=>exact h
 | some x=>
  obtain⟨d,e,f,j,g⟩:=b0B h b a;simp only;split
  ·exact h
  ·split
   ·exact h
   ·split
    ·exact h
    ·exact h.set (x':=b21 x u) b rfl rfl rfl (b7C (h.1.nd i x b).2.2.1 d ⟨e,f⟩ (by omega) _) g rfl
theorem TGd.sealed{c:Nat}{T:Tr}(h:TGd c T)(i u:Nat):TGd c (a2S T i u).2:=by
 unfold a2S;by_cases b:fileT T i≠0
 ·rw[Ah b];exact h
 rw[Ag b];cases a:getK i T with
 | none=>exact h
 | some x=>
  obtain⟨d,j,k,l,g⟩:=b0B h a b;simp only;split
  ·exact h
  ·split
   ·exact h
   ·have f:=h.set (x':=a5t x u) a rfl rfl rfl (b7C (h.1.nd i x a).2.2.1 d ⟨j,k⟩ (by omega) _) g rfl;have e:getK i (a01 T i (a5t x u))=some (a5t x u):=by rw[a0q,Ah rfl,a];rfl
    unfold a2f;rw[e];simp only;split
    ·rename_i h3;exact f.settle e d h3.1
    ·exact f
theorem TGd.appd{c:Nat}{T:Tr}(h:TGd c T)(i:Nat)(b:List UInt8):TGd c (a6Q T i b).2:=by
 unfold a6Q;by_cases a:fileT T i≠0
 ·rw[Ah a];exact h
 rw[Ag a];cases d:getK i T with
 | none=>exact h
 | some x=>
  obtain⟨e,g,j,f,k⟩:=b0B h d a;simp only;split
  ·exact h
  ·split
   ·exact h
   ·exact h.set (x':=b4X x b) d rfl rfl rfl (b7C (h.1.nd i x d).2.2.1 e (by rw[Af];omega) f _) rfl rfl
def a6G(T:Tr)(i:Nat):Tr:=a1K i (T.map fun p=>(p.1,⟨p.2.n,p.2.b,p.2.names.filter fun q=> !decide (q.2=i)⟩))
theorem a6F(T:Tr)(i j:Nat):getK j (a6G T i)=if j=i then none else(getK j T).map fun x=>⟨x.n,x.b,x.names.filter fun q=> !decide (q.2=i)⟩:=by
 unfold a6G;rw[a1j];by_cases h:j=i
 ·rw[Ah h,Ah h]
 ·rw[Ag h,Ag h];unfold getK;rw[List.find?_map];change Option.map _ (Option.map _ (List.find? (fun p:Nat×It=>decide (p.1=j)) T))=_;cases List.find? (fun p:Nat×It=>decide (p.1=j)) T with
  | none=>rfl
  | some p=>rfl
theorem b1m{l:List (List UInt8×Nat)}{i k:Nat}{s:List UInt8}(c:l.Pairwise (fun p q=>p.1≠q.1))(h:getK s (l.filter fun q=> !decide (q.2=i))=some k):getK s l=some k/\k≠i:=by
 have:=a2i h;obtain⟨a,b⟩:=Ck.1 this;exact⟨a0s c a,by simpa using b⟩
theorem TGd.drop{c:Nat}{T:Tr}(h:TGd c T){i:Nat}(C:i≠0):TGd c (a6G T i):=by
 have g:∀j y,getK j (a6G T i)=some y->j≠i/\∃x,getK j T=some x/\y=⟨x.n,x.b,x.names.filter fun q=> !decide (q.2=i)⟩:=fun j y d=>by
  rw[a6F] at d;by_cases e:j=i
  ·rw[Ah e] at d;cases d
  ·rw[Ag e] at d;obtain⟨x,f,l⟩:=AU.1 d;exact⟨e,x,f,l.symm⟩
 have N:∀k,cntT (a6G T i) k<=cntT T k:=fun k=>by
  refine Ad (a8u i k _) ?_;unfold cntT;rw[BU];have:∀(r:Tr),(r.map ((fun p:Nat×It=>nmN p.2.names k) ∘ fun p=>(p.1,(⟨p.2.n,p.2.b,p.2.names.filter fun q=> !decide (q.2=i)⟩:It)))).sum<=(r.map fun p=>nmN p.2.names k).sum:=by
   intro r
   induction r with
   | nil=>exact Aa _
   | cons y q O=>
    rw[Au,Au,Ci,Ci];have:nmN (y.2.names.filter fun q=> !decide (q.2=i)) k<=nmN y.2.names k:=((List.filter_sublist).map _).count_le k;simp only[Cx];omega
  exact this T
 refine⟨⟨?_,fun j y d=>?_,fun j y s k d I=>?_,?_⟩,⟨?_,fun j y d=>?_⟩,fun k y d=>?_,fun k y d hk=>?_,?_⟩
 ·obtain⟨x,f,l⟩:=h.1.root;exact⟨⟨x.n,x.b,x.names.filter fun q=> !decide (q.2=i)⟩,by rw[a6F,Ag (fun e=>C e.symm),f];rfl,l⟩
 ·obtain⟨_,x,f,rfl⟩:=g j y d;obtain⟨L,o,F,v,u⟩:=h.1.nd j x f;exact⟨L,o,F,v,Ad (List.length_filter_le ..) u⟩
 ·obtain⟨_,x,f,rfl⟩:=g j y d;obtain⟨l,h3⟩:=b1m (h.2.uq.2 j x f) I;obtain⟨⟨z,H⟩,E⟩:=h.1.nm j x s k f l;exact⟨⟨_,by rw[a6F,Ag h3,H];rfl⟩,E⟩
 ·refine Ad (a8q _ _) ?_;rw[AC];exact h.1.len
 ·unfold a6G a1K;refine List.Pairwise.filter _ ?_;rw[A2];exact h.2.uq.1
 ·obtain⟨_,x,f,rfl⟩:=g j y d;exact(h.2.uq.2 j x f).filter _
 ·obtain⟨_,x,f,rfl⟩:=g k y d;have:=h.2.cnt k x f;have:=N k;simp only;omega
 ·obtain⟨_,x,f,rfl⟩:=g k y d;exact h.2.dir k x f hk
 ·obtain⟨A,w⟩:=h.2.hgt;refine⟨A,fun a b ⟨x,s,y,B,G,J,M,K⟩=>?_⟩;obtain⟨_,x',m,rfl⟩:=g a x B;obtain⟨_,t,D,rfl⟩:=g b y M;exact w a b ⟨x',s,t,m,G,(b1m (h.2.uq.2 a x' m) J).1,D,K⟩
end
end Go.Proofs.YtbemfdcjieakdaaGreatDoor
