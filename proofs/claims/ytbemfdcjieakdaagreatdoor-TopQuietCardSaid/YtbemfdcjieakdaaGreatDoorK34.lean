/- MSave; DiskLaw; Format; MRead. -/
import Derived.Test.YtbemfdcjieakdaaGreatDoorK33
set_option maxRecDepth 100000
set_option maxHeartbeats 8000000
namespace Go.Proofs.YtbemfdcjieakdaaGreatDoor
section
open Go.RowKit Go.ChangeMaps Go.MapKept
abbrev a1N:TypeId:=119
theorem a37(p:Nat)(m:Mk)(a:m.head.length=32)(b:m.state.length+94<=128 * p):(a1r p m).length=128 * p:=by
 unfold a1r;rw[a5v _ _ _ _ _ _ _ _ a (a0v _),Af,Ba];omega
def ptFirst(p gen:Nat):Nat:=1+(gen % 2) * p
theorem a2D{w:World}{b G Q:Nat}{a:Int}{c v2:Value}{d:TypeId}(h:w.heap[b]? =some (.cells #[.int .u64 (G:Int),.int .u64 (Q:Int),.int .i64 a,c,v2] d (0,0))):
  w.cell? ⟨b,0,none⟩=some (.int .u64 (G:Int))/\w.cell? ⟨b,1,none⟩=some (.int .u64 (Q:Int))/\w.cell? ⟨b,2,none⟩=some (.int .i64 a)/\w.cell? ⟨b,3,none⟩=some c/\w.cell? ⟨b,4,none⟩=some v2:=
 ⟨a0a h 0,a0a h 1,a0a h 2,a0a h 3,a0a h 4⟩
theorem b06{w:World}{d sb mb n:Nat}{S:List UInt8}{M:Nat->Option (List UInt8)}(T:Dk w d sb mb n S M)(s g:Int)(pn:Nat)(P:isPlan s pn g)(m:Mk)(o r:Option Addr)(p l q:Nat)(H:Bs w o 32 p m.head)(O:Bs w r l q m.state)(R:m.right g)(Y:l+94<=128 * pn)(Q:1+2 * pn<=n):
  Calls Tryz.prog 59 #[.pointer (some ⟨d,0,none⟩),.agg #[.int .i64 s,.int .i64 (pn:Int),.int .i64 g],.agg #[.int .u64 (m.gen:Int),.int .u64 (m.seq:Int),.int .i64 m.seg,.slice o 32 p,.slice r l q]] w fun e w'=>
   e= .returned (.int .i64 0)/\Dk w' d sb mb n S (layM M (ptFirst pn m.gen) (a1r pn m) pn)/\Chg (fun k=>k=d∨k=mb) w w':=by
 have t:=O.1;have A:(a1r pn m).length=128 * pn:=a37 pn m H.1 (by omega);obtain⟨w0,h⟩:=qnm ((w.alloc (.cells #[.int .i64 s,.int .i64 (pn:Int),.int .i64 g] a14)).alloc (.cells #[.int .u64 (m.gen:Int),.int .u64 (m.seq:Int),.int .i64 m.seg,.slice o 32 p,.slice r l q] a1N));have hb0:Below w.heap.size w w0:=by rw[h];exact(((Ext.refl w).alloc _).alloc _).1
 have b:w0.heap[w.heap.size]? =some (.cells #[.int .i64 s,.int .i64 (pn:Int),.int .i64 g] a14 (0,0)):=by rw[h];exact(AW _ _ _ (by simp)).trans (Ae w _)
 have a:w0.heap[w.heap.size+1]? =some (.cells #[.int .u64 (m.gen:Int),.int .u64 (m.seq:Int),.int .i64 m.seg,.slice o 32 p,.slice r l q] a1N (0,0)):=by
  rw[h];have:=Ae (w.alloc (.cells #[.int .i64 s,.int .i64 (pn:Int),.int .i64 g] a14)) (.cells #[.int .u64 (m.gen:Int),.int .u64 (m.seq:Int),.int .i64 m.seg,.slice o 32 p,.slice r l q] a1N)
  rwa [AR] at this
 obtain⟨N,L⟩:=qnm w.heap.size;rw[<-L] at b a;have j:=qh (b7p s pn g m o r 32 p l q w0 P (H.below hb0) (O.below hb0) R (by omega));have y:=qh (fun W=>b00 s pn g ((m.gen % 2:Nat):Int) W P (by omega) (by omega));have f:=qh (aI T (aI hb0 (aI h (aI L (aI Q A)))));have HZ:=qh (aI b a);obtain⟨p0,p1,p2⟩:=a0C b;obtain⟨F,Z,m2,m3,V⟩:=a2D a;obtain⟨G,J⟩:=qnm m.gen;obtain⟨k,hk⟩:=qnm (m.gen % 2);rw[<-J] at F j;rw[<-hk] at y;have E:=qh (aI J hk);have e1:((G:Int).tmod 2)=(k:Int):=by rw[Int.tmod_eq_emod_of_nonneg (by omega)];omega
 have e2:IntKind.i64.wrap (k:Int)=(k:Int):=Ak _ (by omega);have e3:IntKind.u64.wrap (k:Int)=(k:Int):=Bb _ (by omega);clear T H O R Y Q t A h hb0 b a L J hk;go_enter Tryz.func59,Tryz.ntmps59;go_upto_region 1 with fail
 rw[<-f.out.2.2.1];rw[<-f.out.2.2.2.1];go_wp2_with fail;refine j.out.mono ?_;rintro e w1 ⟨v1,rfl,c,hb1⟩;obtain⟨a1,c1,rfl,C⟩:=c.bsn (n:=128 * pn) (by have:=f.out.2.2.2.2.2;simpa using this);obtain⟨b,a⟩:=HZ.out;obtain⟨p0,p1,p2⟩:=a0C ((hb1.block N (ltH b)).trans b);obtain⟨F,Z,m2,m3,V⟩:=a2D ((hb1.block (N+1) (ltH a)).trans a);rw[<-E.out.1] at F;have U:=qh (aI c hb1);clear c hb1 b a j;go_wp2_with fail;refine(y.out w1).mono ?_;rintro e w2 ⟨rfl,hb2⟩;obtain⟨c,hb1⟩:=U.out;have z:=f.out.1.below (f.out.2.1.trans ((hb1.trans (hb2.mono hb1.size)).mono f.out.2.1.size));have i:(1+(k:Int) * (pn:Int))=((ptFirst pn m.gen:Nat):Int):=by unfold ptFirst;rw[<-E.out.2];push_cast;rfl
 have x:k=0∨k=1:=by have:=E.out.2;omega
 have D:ptFirst pn m.gen+pn<=n:=by
  have:=f.out.2.2.2.2.1;unfold ptFirst;rw[<-E.out.2];rcases x with rfl | rfl <;>omega
 rw[i];have u:=b0u z (ptFirst pn m.gen) pn a1 c1 _ (by simpa using C.below hb2) D (fun ad K=>by
  subst K;have h1:=c.ge ad.block rfl;have h2:=f.out.1.lt;have h3:=f.out.2.1.size;omega)
 have I:=qh u;have HB:=qh (show Below w.heap.size w w2 from f.out.2.1.trans ((hb1.trans (hb2.mono hb1.size)).mono f.out.2.1.size));clear c hb1 hb2 z i x D u C;go_wp2_with fail;refine I.out.mono ?_;rintro e w3 ⟨rfl,B,v⟩;have X:=qh (aI B ((Chg.of_below HB.out (fun k=>k=d∨k=mb)).two v));clear B v;go_wp2_with fail;go_ret;exact⟨rfl,X.out⟩
theorem b5X{w:World}{d:Nat}(s g:Int)(pn:Nat)(v:isPlan s pn g)(m:Mk)(h k:Option Addr)(i f j:Nat)(p:Bs w h 32 i m.head)(r:Bs w k f j m.state)(q:m.right g)(u:¬f+94<=128 * pn):
  Calls Tryz.prog 59 #[.pointer (some ⟨d,0,none⟩),.agg #[.int .i64 s,.int .i64 (pn:Int),.int .i64 g],.agg #[.int .u64 (m.gen:Int),.int .u64 (m.seq:Int),.int .i64 m.seg,.slice h 32 i,.slice k f j]] w fun e w'=>
   e= .returned (.int .i64 15)/\Below w.heap.size w w':=by
 obtain⟨w0,a⟩:=qnm ((w.alloc (.cells #[.int .i64 s,.int .i64 (pn:Int),.int .i64 g] a14)).alloc (.cells #[.int .u64 (m.gen:Int),.int .u64 (m.seq:Int),.int .i64 m.seg,.slice h 32 i,.slice k f j] a1N));have hb0:Below w.heap.size w w0:=by rw[a];exact(((Ext.refl w).alloc _).alloc _).1
 have c:w0.heap[w.heap.size]? =some (.cells #[.int .i64 s,.int .i64 (pn:Int),.int .i64 g] a14 (0,0)):=by rw[a];exact(AW _ _ _ (by simp)).trans (Ae w _)
 have b:w0.heap[w.heap.size+1]? =some (.cells #[.int .u64 (m.gen:Int),.int .u64 (m.seq:Int),.int .i64 m.seg,.slice h 32 i,.slice k f j] a1N (0,0)):=by
  rw[a];have:=Ae (w.alloc (.cells #[.int .i64 s,.int .i64 (pn:Int),.int .i64 g] a14)) (.cells #[.int .u64 (m.gen:Int),.int .u64 (m.seq:Int),.int .i64 m.seg,.slice h 32 i,.slice k f j] a1N)
  rwa [AR] at this
 obtain⟨N,o⟩:=qnm w.heap.size;rw[<-o] at c b;have n:=qh (b0f s pn g m h k 32 i f j w0 v (p.below hb0) (r.below hb0) q (by omega));have l:=qh (aI hb0 (aI a o));obtain⟨B,E,C⟩:=a0C c;obtain⟨y,z,D,A,x⟩:=a2D b;clear p r q u a hb0 c b o;go_enter Tryz.func59,Tryz.ntmps59;go_upto_region 1 with fail
 rw[<-l.out.2.1];rw[<-l.out.2.2];go_wp2_with fail;refine n.out.mono ?_;rintro e F ⟨rfl,hb1⟩;have t:=qh (l.out.1.trans (hb1.mono l.out.1.size));clear hb1;go_wp2_with fail;go_ret;exact⟨rfl,t.out⟩
end
section
open Go.RowKit
abbrev nM:Nat->Option (List UInt8):=fun _=>none
theorem a7K{S S':List UInt8}{M b:Nat->Option (List UInt8)}{a k:Nat}(h:∀j,j<k->sect S M (a+j)=sect S' b (a+j)):catS S M a k=catS S' b a k:=by
 unfold catS;congr 1;exact AY fun j c=>h j (List.mem_range.1 c)
theorem b6a(M:Nat->Option (List UInt8))(first:Nat)(xs:List UInt8)(m i:Nat)(h:first<=i/\i<first+m):layM M first xs m i=some (chk xs (i - first)):=Ah h
theorem b34(M:Nat->Option (List UInt8))(first:Nat)(xs:List UInt8)(m i:Nat)(h:¬(first<=i/\i<first+m)):layM M first xs m i=M i:=Ag h
theorem a71(S:List UInt8)(M:Nat->Option (List UInt8))(first:Nat)(xs:List UInt8)(m i:Nat)(h:first<=i/\i<first+m):sect S (layM M first xs m) i=chk xs (i - first):=by
 unfold sect;rw[b6a _ _ _ _ _ h];rfl
theorem a4A(S:List UInt8)(M:Nat->Option (List UInt8))(first:Nat)(xs:List UInt8)(m i:Nat)(h:¬(first<=i/\i<first+m)):sect S (layM M first xs m) i=sect S M i:=by
 unfold sect;rw[b34 _ _ _ _ _ h]
theorem b1s(S:List UInt8)(M:Nat->Option (List UInt8))(first:Nat)(xs:List UInt8)(m:Nat)(h:xs.length=128 * m):catS S (layM M first xs m) first m=xs:=by
 have e:catS S (layM M first xs m) first m=((List.range m).map (chk xs)).flatten:=by
  unfold catS;congr 1;refine AY fun j a=>?_
  have:=List.mem_range.1 a;rw[a71 _ _ _ _ _ _ (by omega)];congr 1;omega
 rw[e,b4H,Am (by omega)]
theorem a8x(S:List UInt8)(M:Nat->Option (List UInt8))(first:Nat)(xs:List UInt8)(m a k:Nat)(h:a+k<=first∨first+m<=a):catS S (layM M first xs m) a k=catS S M a k:=
 a7K fun j b=>a4A _ _ _ _ _ _ (by omega)
theorem a5m{S S':List UInt8}{M:Nat->Option (List UInt8)}{n a k:Nat}(h:∀i,i<n->secOf S' i=sect S M i)(hk:a+k<=n):catS S' nM a k=catS S M a k:=
 a7K fun j b=>by rw[a4z S' nM (a+j) rfl];exact h _ (by omega)
theorem b1v(k:Nat):((List.range k).map fun _=>List.replicate 128 (0:UInt8)).flatten=List.replicate (128 * k) 0:=by
 induction k with
 | zero=>rfl
 | succ k a=>
  rw[List.range_succ,AZ,AT,a];simp only[Au,Bf,Bg,List.flatten_nil,By,List.replicate_append_replicate];congr 1
theorem b2x(S:List UInt8)(M:Nat->Option (List UInt8))(a k:Nat)(h:∀j,j<k->sect S M (a+j)=List.replicate 128 0):catS S M a k=List.replicate (128 * k) 0:=by
 rw[<-b1v];unfold catS;congr 1;exact AY fun j b=>h j (List.mem_range.1 b)
theorem b4I(m k:Nat)(h:k<m):chk (List.replicate (128 * m) (0:UInt8)) k=List.replicate 128 0:=by
 unfold chk;rw[List.drop_replicate,List.take_replicate];congr 1;omega
structure DOk (S:List UInt8) (n pn g:Nat) (id P0 P1:List UInt8) (sg:Nat->List UInt8):Prop where
 super:secOf S 0=supBytes n id
 pt0:catS S nM 1 pn=P0
 pt1:catS S nM (1+pn) pn=P1
 seg:∀i,i<g->catS S nM (1+2 * pn+i * 8) 8=sg i
end
section
open Go.RowKit Go.ChangeMaps Go.MapKept
def b4c:List UInt8:=stBytes a0R.T a0R.S a0R.now
theorem a3Q:b4c.length=51:=by kernel_rfl
def a5i(id:List UInt8)(gen:Nat):Mk:=⟨gen,0,0,sha (3 :: id),b4c⟩
def b2C(pn:Nat)(id:List UInt8)(gen:Nat):List UInt8:=a1r pn (a5i id gen)
theorem a3P:TrOk 0 a0R.T:=by
 have c:∀i (x:It),getK i a0R.T=some x->i=0/\x=a0n 0 2:=fun i x a=>by
  unfold getK a0R at a;by_cases b:0=i
  ·simp[b] at a;exact⟨b.symm,by rw[<-a,<-b]⟩
  ·simp[b] at a
 refine⟨⟨a0n 0 2,rfl,rfl⟩,fun i x a=>?_,fun i x s k a d=>?_,by decide⟩
 ·obtain⟨rfl,rfl⟩:=c i x a;exact⟨Aa _,rfl,by decide,rfl,Aa _⟩
 ·obtain⟨rfl,rfl⟩:=c i x a;simp[a0n,getK] at d
theorem a89:Shut0 a0R.T:=fun i x a hk=>by
 have:x=a0n 0 2:=by
  unfold getK a0R at a;by_cases b:0=i
  ·simp[b] at a;rw[<-a,<-b]
  ·simp[b] at a
 rw[this] at hk;exact absurd rfl hk
theorem b0o:SnGd 0 a0R.S:=⟨by decide,fun s a=>by simp[a0R,b5S] at a,by decide,by decide⟩
theorem b7A(w:World)(L:Nat)(a:L<=w.heap.size){s:Nat}(h:StAt w L L w.heap.size s a0R):
  Calls Tryz.prog 32 #[.pointer (some ⟨s,0,none⟩)] w fun e w'=>∃v,e= .returned v/\Own w' w.heap.size v b4c/\Below w.heap.size w w':=by
 obtain⟨t,d,f,h⟩:=h;refine(a67 h (Aa _) (Commits.shut h.tree a3P (by omega) a a89) a3P (by omega) b0o).mono ?_;rintro e w' ⟨v,b,c,_,h3⟩;exact⟨v,b,c,h3⟩
def M2(M:Nat->Option (List UInt8))(n:Nat)(id:List UInt8):Nat->Option (List UInt8):=layM (layM M 0 (supBytes n id) 1) 1 (List.replicate (128 * (n - 1)) 0) (n - 1)
def b7M(M:Nat->Option (List UInt8))(n pn:Nat)(id:List UInt8):Nat->Nat->Option (List UInt8)
 | 0=>M2 M n id
 | k+1=>layM (b7M M n pn id k) (ptFirst pn (k+1)) (b2C pn id (k+1)) pn
theorem b8K{S S':List UInt8}{M:Nat->Option (List UInt8)}{n pn g:Nat}{id:List UInt8}(h:id.length=16)(o:16<=pn)(m:1+2 * pn+g * 8<=n)(a:∀i,i<n->secOf S' i=sect S (b7M M n pn id 2) i):
  DOk S' n pn g id (b2C pn id 2) (b2C pn id 1) (fun _=>List.replicate 1024 0):=by
 have b:∀k,(b2C pn id k).length=128 * pn:=fun k=>a37 pn (a5i id k) (a0v _) (by show b4c.length+94<=_;rw[a3Q];omega)
 have e:ptFirst pn 2=1:=by unfold ptFirst;omega
 have f:ptFirst pn 1=1+pn:=by unfold ptFirst;omega
 have d:b7M M n pn id 2=layM (layM (M2 M n id) (1+pn) (b2C pn id 1) pn) 1 (b2C pn id 2) pn:=by
  show layM (layM (M2 M n id) (ptFirst pn 1) (b2C pn id 1) pn) (ptFirst pn 2) (b2C pn id 2) pn=_;rw[f,e]
 rw[d] at a;refine⟨?_,?_,?_,fun i c=>?_⟩
 ·rw[a 0 (by omega),a4A _ _ _ _ _ _ (by omega),a4A _ _ _ _ _ _ (by omega)];unfold M2;rw[a4A _ _ _ _ _ _ (by omega),a71 _ _ _ _ _ _ (by omega)];unfold chk;rw[Nat.sub_self,Nat.mul_zero,BP,Am (by rw[a2M n id h];exact Aa _)]
 ·rw[a5m a (by omega)];exact b1s _ _ _ _ _ (b 2)
 ·rw[a5m a (by omega),a8x _ _ _ _ _ _ _ (.inr (by omega))];exact b1s _ _ _ _ _ (b 1)
 ·rw[a5m a (by omega),a8x _ _ _ _ _ _ _ (.inr (by omega)),a8x _ _ _ _ _ _ _ (.inr (by omega))];refine b2x _ _ _ 8 fun j l=>?_
  unfold M2;rw[a71 _ _ _ _ _ _ (by omega)];exact b4I _ _ (by omega)
theorem b4d{w:World}{d sb mb n:Nat}{S:List UInt8}{M:Nat->Option (List UInt8)}(hD:Dk w d sb mb n S M)(h1:64<=n)(Z:Option Addr)(ic:Nat)(id:List UInt8)(hI:Bs w Z 16 ic id)(a3:∀y,Z=some y->y.block≠d/\y.block≠sb/\y.block≠mb):
  Calls Tryz.prog 24 #[.pointer (some ⟨d,0,none⟩),.slice Z 16 ic] w fun e w'=>e= .returned (.int .i64 0)/\(∃S',Dk w' d sb mb n S' nM/\DOk S' n (n / 4) ((n - 1 - 2 * (n / 4)) / 8) id (b2C (n / 4) id 2) (b2C (n / 4) id 1) (fun _=>List.replicate 1024 0))/\Chg (fun k=>k=d∨k=sb∨k=mb) w w':=by
 have Y:n<=4096:=hD.2.2.1;have aj:=hI.1;have B:=hD.lt;have A:isPlan (n:Int) ((n / 4:Nat):Int) (seg (n:Int)):=⟨by omega,by omega,by omega,rfl⟩
 have z:ofV (n:Int)= .tuple #[.agg #[.int .i64 (n:Int),.int .i64 ((n / 4:Nat):Int),.int .i64 (seg (n:Int))],.int .i64 0]:=by
  unfold ofV;rw[Ag (by omega)];congr 5
 obtain⟨pn,X⟩:=qnm (n / 4);rw[<-X] at A z⊢;obtain⟨g,hg⟩:=qnm (seg (n:Int));rw[<-hg] at A z;have c:=qh (aI hD (aI hI (aI a3 (aI A (aI aj (aI h1 (aI Y X)))))));have aw:=qh (fun W (hb:Below w.heap.size w W)=>b0Q n Z ic id W (hI.below hb) h1 Y);have au:=qh (fun W (hb:Below w.heap.size w W)=>a2N (hD.below hb));have a7:=qh (fun W=>b04 (n:Int) W);rw[z] at a7;have e1:IntKind.i64.wrap ((n:Int) - 1)=((n - 1:Nat):Int):=by rw[Ak _ (by omega)];omega
 have e2:IntKind.i64.wrap (128 * ((n - 1:Nat):Int))=((128 * (n - 1):Nat):Int):=by rw[Ak _ (by omega)];omega
 obtain⟨n1,E⟩:=qnm (n - 1);obtain⟨nb,O⟩:=qnm (128 * n1);rw[<-E,<-O] at e2;rw[<-E] at e1;have HN:=qh (aI E O);have ax:=qh (fun W=>a1W nb (by omega) W);have s:=qh B;clear hD hI a3 A aj h1 Y X z hg E O B;go_enter Tryz.func24,Tryz.ntmps24;go_wp2_with fail;refine(au.out w (Ab _ _)).mono ?_;rintro e w' ⟨rfl,rfl⟩;go_wp2_with fail;refine(aw.out w (Ab _ _)).mono ?_;rintro e w1 ⟨v1,rfl,q,hb1⟩;obtain⟨a1,c1,rfl,a9⟩:=q.bsn (n:=128) (a2M n id c.out.2.2.2.2.1);have H1:=qh (aI q hb1);have a4:=qh (au.out w1 hb1);clear q hb1;go_wp2_with fail;refine a4.out.mono ?_;rintro e w' ⟨rfl,rfl⟩;go_wp2_with fail;refine(a7.out w1).mono ?_;rintro e w2 ⟨rfl,hb2⟩;obtain⟨q,hb1⟩:=H1.out;obtain⟨w3,D⟩:=qnm (w2.alloc (.cells #[.int .i64 (n:Int),.int .i64 (pn:Int),.int .i64 g] a14));have hb3:=qba D;obtain⟨N,hN⟩:=qnm w2.heap.size;have ai:w3.heap[N]? =some (.cells #[.int .i64 (n:Int),.int .i64 (pn:Int),.int .i64 g] a14 (0,0)):=by rw[D,hN];exact Ae w2 _
 have t:Below w1.heap.size w1 w3:=hb2.trans (hb3.mono hb2.size);have v:Below w.heap.size w w3:=hb1.trans (t.mono hb1.size);have ar:w.heap.size<=N:=by rw[hN];exact Ad hb1.size hb2.size
 have f:=b0u (c.out.1.below v) 0 1 a1 c1 _ (by simpa using a9.below t) (by have:=c.out;omega) (fun y h=>by
  subst h;have h1:=q.ge y.block rfl;have h2:=s.out
  (try simp only at h1)
  omega)
 simp only[Nat.mul_one] at f;have u:=qh f;have b:=qh (aI D (aI hN (aI ai (aI v ar))));clear q hb1 hb2 hb3 t v f a9 D hN ai ar a4;go_upto_region 7 with fail
 rw[<-b.out.1,<-b.out.2.1];go_wp2_with fail;refine u.out.mono ?_;rintro e w4 ⟨rfl,o,R⟩;have ab:=qh (a2N o);have a:Chg (fun k=>k=d∨k=mb) w w4:=(Chg.of_below b.out.2.2.2.1 _).two R;have m:=(R.block N (ltH b.out.2.2.1) (by have:=b.out.2.2.2.2;have:=s.out;omega)).trans b.out.2.2.1;have H4:=qh (aI o (aI a m));have aC:=ax.out w4;clear o R a m u;go_wp2_with fail;refine ab.out.mono ?_;rintro e w' ⟨rfl,rfl⟩;obtain⟨o,a,m⟩:=H4.out;obtain⟨w5,G⟩:=qnm (w4.alloc (.cells (madeCells #[.int .u8 0] nb) TB));have hb5:=qba G;have ae:Bs w5 (some ⟨w4.heap.size,0,none⟩) nb nb (List.replicate nb 0):=by
  have:=(Row.zero w4 nb (by have:=HN.out;have:=c.out;unfold maxLen;omega)).bs;rw[Ba] at this;rw[G];exact this
 have f:=b0u (o.below hb5) 1 n1 (some ⟨w4.heap.size,0,none⟩) nb (List.replicate nb 0) (by rw[<-HN.out.2];exact ae) (by have:=HN.out;have:=c.out;omega) (fun y h=>by
  injection h with h
  subst h;have h2:=s.out;have h3:=a.size;simp only;omega)
 rw[<-HN.out.2] at f;have u:=qh f;have ak:=(hb5.block N (ltH m)).trans m;have H5:=qh (aI G (aI (a.step hb5) ak));clear o a m G hb5 ae f ak ab;go_wp2_with (rw[<-H5.out.1]);refine u.out.mono ?_;rintro e w6 ⟨rfl,L,P⟩;have al:layM (layM M 0 (supBytes n id) 1) 1 (List.replicate nb 0) n1=b7M M n pn id 0:=by
  show _=M2 M n id;unfold M2;rw[HN.out.2,HN.out.1]
 rw[al] at L;have H6:=qh (show Dk w6 d sb mb n S (b7M M n pn id 0)/\Chg (fun k=>k=d∨k=mb) w w6/\w6.heap[N]? =some (.cells #[.int .i64 (n:Int),.int .i64 (pn:Int),.int .i64 g] a14 (0,0)) from
  ⟨L,H5.out.2.1.two P,(P.block N (ltH H5.out.2.2) (by have:=b.out.2.2.2.2;have:=s.out;omega)).trans H5.out.2.2⟩)
 clear L P al u aC;go_wp2_with fail;go_loopw [9,38] (fun _ i wr=>∃k:Nat,k<=2/\i= .int .u64 (k:Int)/\Dk wr d sb mb n S (b7M M n pn id k)/\Chg (fun k=>k=d∨k=mb) w wr/\wr.heap[N]? =some (.cells #[.int .i64 (n:Int),.int .i64 (pn:Int),.int .i64 g] a14 (0,0))) (fun _ i _=>2 - (intOf i).toNat);case atStart=>exact ⟨0,by omega,rfl,H6.out⟩
 case round=>
  obtain⟨k,hk,rfl,x,j,F⟩:=hrel;clear H6;by_cases B:k<2
  ·have e3:(k:Int)<2:=by omega
   obtain⟨U,p⟩:=qnm (k+1);have e4:IntKind.u64.wrap ((k:Int)+1)=(U:Int):=by rw[Bb _ (by omega)];omega
   have e5:(0:Int)<=(k:Int):=by omega
   have ap:Bs wr Z 16 ic id:=j.bs c.out.2.1 (fun y h=>by have:=c.out.2.2.1 y h;omega);have az:=qh (a6y Z 16 ic id wr.drew (ap.below (Ab _ _).drew) (by omega));have r:=qh (aI x (aI j (aI F (aI hk p))));obtain⟨p0,p1,p2⟩:=a0C F;clear x j F hk p ap;go_upto_region 12 with fail
   refine a0h (fun i=>[0,1,2,3,4,5,6,7,8,9].contains i) (fun w'=>w'.cell? ⟨N,0,none⟩=some (.int .i64 (n:Int))/\w'.cell? ⟨N,1,none⟩=some (.int .i64 (pn:Int))/\w'.cell? ⟨N,2,none⟩=some (.int .i64 g)) (by kernel_rfl) ?_ (fun hHeld=>?_)
   ·exact⟨p0,p1,p2⟩
   refine qtk 0 41 ?_;refine qtk 1 42 ?_;refine qtk 2 43 ?_;refine qtk 3 44 ?_;refine qtk 4 45 ?_;refine qone 5 fun K hK=>?_
   go_simp;refine az.out.mono ?_;rintro e H ⟨⟨va,rfl,V⟩,ao⟩;obtain⟨aa,ca,rfl,_⟩:=V.bsn (n:=32) (a0v _);have HA:=qh (aI V (show Below wr.heap.size wr H from(Ab _ _).drew.trans ao));have aA:=qh (b28 H H.heap.size (Aa _));have hHeld:=a0C ((HA.out.2.block N (ltH r.out.2.2.1)).trans r.out.2.2.1);clear V ao;go_wp2_with fail;refine hK.out _ _ (fun _=>hHeld) ?_;clear hK K;refine qone 6 fun K hK=>?_
   go_simp;refine aA.out.mono ?_;rintro e wb ⟨s1,rfl,ah,C⟩;have ay:=qh (b7A wb H.heap.size C.size (ah));have HB:=qh (show Below wr.heap.size wr wb/\Below H.heap.size H wb from⟨HA.out.2.trans (C.mono HA.out.2.size),C⟩);have hHeld:=a0C ((HB.out.1.block N (ltH r.out.2.2.1)).trans r.out.2.2.1);clear ah C;go_wp2_with fail;refine hK.out _ _ (fun _=>hHeld) ?_;clear hK K;refine qone 7 fun K hK=>?_
   go_simp;refine ay.out.mono ?_;rintro e wc ⟨vc,rfl,a5,T⟩;obtain⟨ac,cc,rfl,af⟩:=a5.bsn (n:=51) a3Q;have l:Below wr.heap.size wr wc:=HB.out.1.trans (T.mono HB.out.1.size);have I:Below H.heap.size H wc:=HB.out.2.trans (T.mono HB.out.2.size);obtain⟨aE,aF,aB,a0⟩:=(HA.out.1.below I).bsn (n:=32) (a0v _);injection aB with aq a2 ag
   subst aq ag;clear a2;have an:=b06 (r.out.1.below l) (n:Int) g pn c.out.2.2.2.1 (a5i id U) aa ac ca 51 cc a0 af ⟨by show 1<=U;have:=r.out;omega,by show U<=1099511627776;have:=r.out;omega,by show 0<=1099511627776;omega,by show(0:Int)<=0;omega,by show(0:Int)<=g;have:=c.out.2.2.2.1.bd;omega,a0v _⟩ (by have:=c.out;omega) (by have:=c.out;omega);have aD:=qh an;have HC:=qh l;have hHeld:=a0C ((l.block N (ltH r.out.2.2.1)).trans r.out.2.2.1);clear a5 T af l I a0 an;go_wp2_with fail;refine hK.out _ _ (fun _=>hHeld) ?_;clear hK K;refine qtk 8 49 ?_;refine qone 9 fun K hK=>?_
   go_simp;refine aD.out.mono ?_;rintro e wd ⟨rfl,Q,J⟩;have H9:=qh (show Dk wd d sb mb n S (b7M M n pn id U)/\Chg (fun k=>k=d∨k=mb) w wd/\wd.heap[N]? =some (.cells #[.int .i64 (n:Int),.int .i64 (pn:Int),.int .i64 g] a14 (0,0)) from by
     obtain⟨_,j,F,_,p⟩:=r.out;refine⟨?_,(j.step HC.out).two J,(J.block N (ltH ((HC.out.block N (ltH F)).trans F)) (by have:=b.out.2.2.2.2;have:=s.out;omega)).trans ((HC.out.block N (ltH F)).trans F)⟩;rw[p] at Q⊢;exact Q)
   have hHeld:=a0C H9.out.2.2;clear Q J;go_wp2_with fail;refine hK.out _ _ (fun _=>hHeld) ?_;clear hK K;refine qdon ?_;clear hHeld p0 p1 p2;go_wp2_with fail;go_roundw;case rel=>
    obtain⟨_,_,_,hk,p⟩:=r.out;exact⟨U,by omega,rfl,H9.out⟩
   case measure=>
    obtain⟨_,_,_,hk,p⟩:=r.out;show 2 - (U:Int).toNat<2 - (k:Int).toNat;omega
  ·obtain rfl:k=2:=by omega
   clear B;have av:=qh (a6z x);have HF:=qh (aI j x);clear x j F;go_wp2_with fail;refine av.out.mono ?_;rintro e w7 ⟨rfl,⟨S',a6,a8⟩,am⟩;have HE:=qh (show(∃S',Dk w7 d sb mb n S' nM/\DOk S' n pn ((n - 1 - 2 * pn) / 8) id (b2C pn id 2) (b2C pn id 1) (fun _=>List.replicate 1024 0))/\Chg (fun k=>k=d∨k=sb∨k=mb) w w7 from
    ⟨⟨S',a6,b8K c.out.2.2.2.2.1 (by have:=c.out;omega) (by have:=c.out;omega) a8⟩,(HF.out.1.mono (fun _ _ e=>by omega)).trans am (fun _ _ e=>by omega)⟩)
   clear a6 a8 am;go_wp2_with fail;go_ret;rw[c.out.2.2.2.2.2.2.2] at HE;exact⟨rfl,by rw[c.out.2.2.2.2.2.2.2];exact HE.out.1,HE.out.2⟩
theorem chg3(w:World)(b:Nat)(c d a:Value):Chg (fun k=>k=b) w (((w.setCell ⟨b,0,none⟩ c).setCell ⟨b,1,none⟩ d).setCell ⟨b,2,none⟩ a):=
 ((a0x w b 0 c).two (a0x _ b 1 d)).two (a0x _ b 2 a)
theorem b64(w:World)(b:Nat)(c a f e d:Value):Chg (fun k=>k=b) w (((((w.setCell ⟨b,0,none⟩ c).setCell ⟨b,1,none⟩ a).setCell ⟨b,2,none⟩ f).setCell ⟨b,3,none⟩ e).setCell ⟨b,4,none⟩ d):=
 ((((a0x w b 0 c).two (a0x _ b 1 a)).two (a0x _ b 2 f)).two (a0x _ b 3 e)).two (a0x _ b 4 d)
theorem b3U{w:World}{d sb mb n:Nat}{S:List UInt8}(G:Dk w d sb mb n S nM)(F:64<=n)(id:List UInt8)(hid:id.length=16)(X:secOf S 0=supBytes n id):
  Calls Tryz.prog 128 #[.pointer (some ⟨d,0,none⟩)] w fun e w'=>(∃v,e= .returned (.tuple #[.agg #[.int .i64 (n:Int),.int .i64 ((n / 4:Nat):Int),.int .i64 (seg (n:Int))],v,.int .i64 0])/\Own w' w.heap.size v id)/\Below w.heap.size w w':=by
 have A:n<=4096:=G.2.2.1;have B:ofV (n:Int)= .tuple #[.agg #[.int .i64 (n:Int),.int .i64 ((n / 4:Nat):Int),.int .i64 (seg (n:Int))],.int .i64 0]:=by
  unfold ofV;rw[Ag (by omega)];congr 5
 have p:=qh (fun W=>b04 (n:Int) W);rw[B] at p;obtain⟨pn,u⟩:=qnm (n / 4);obtain⟨g,U⟩:=qnm (seg (n:Int));rw[<-u,<-U] at p⊢;obtain⟨o,i⟩:=qnm (w.alloc (.cells #[.int .i64 0,.int .i64 0,.int .i64 0] a14));have hb0:=qba i;have l:o.heap[w.heap.size]? =some (.cells #[.int .i64 0,.int .i64 0,.int .i64 0] a14 (0,0)):=by rw[i];exact Ae w _
 obtain⟨N,J⟩:=qnm w.heap.size;rw[<-J] at l;have q:=a6H (G.below hb0) 0 (by omega);rw[a4z S nM 0 rfl,X] at q;have r:=qh q;have M:=qh (fun W (hb:Below w.heap.size w W)=>a2N (G.below hb));obtain⟨q1,T,R⟩:=a9O n id hid F A;have y:=qh (aI q1 (aI T (aI R (aI hid (a2M n id hid)))));have f:=qh (aI i (aI hb0 (aI l J)));clear G F X A B u U i hb0 l J q q1 T R hid;go_enter Tryz.func128,Tryz.ntmps128;go_upto_region 1 with fail
 rw[<-f.out.1,<-f.out.2.2.2];go_wp2_with fail;refine r.out.mono ?_;rintro e P ⟨v1,rfl,C,hb1⟩;obtain⟨a1,c1,rfl,D⟩:=C.bsn (n:=128) y.out.2.2.2.2;have t:=qh (b5A a1 128 c1 _ P D (by unfold big;decide));have I:=qh (show Below o.heap.size o P from hb1);clear C D hb1 r;go_wp2_with fail;refine t.out.mono ?_;rintro e w2 ⟨Q,hb2⟩;have L:∃v,e= .returned (.tuple #[.int .i64 (n:Int),v,.int .i64 0])/\Own w2 P.heap.size v id:=by
  rcases Q with⟨_,v,V,Z⟩ | ⟨hn,_⟩
  ·rw[y.out.2.1] at V;rw[y.out.2.2.1] at Z;exact⟨v,V,Z⟩
  ·exact absurd y.out.1 hn
 obtain⟨v2,rfl,j⟩:=L;obtain⟨H,O,rfl,_⟩:=j.bsn (n:=16) y.out.2.2.2.1;have E:=qh (show Below o.heap.size o w2/\Own w2 w.heap.size (.slice H 16 O) id from⟨I.out.trans (hb2.mono I.out.size),j.base (Ad f.out.2.1.size I.out.size)⟩);have x:=qh (M.out w2 (f.out.2.1.trans (E.out.1.mono f.out.2.1.size)));have a0:((n:Int) != (n:Int))=false:=bne_self_eq_false _;clear Q j hb2 t;go_wp2_with fail;refine x.out.mono ?_;rintro e w' ⟨rfl,rfl⟩;go_wp2_with fail;refine(p.out w2).mono ?_;rintro e K ⟨rfl,hb3⟩;obtain⟨w4,h⟩:=qnm (K.alloc (.cells #[.int .i64 (n:Int),.int .i64 (pn:Int),.int .i64 g] a14));have hb4:=qba h;have c:Below w2.heap.size w2 w4:=hb3.trans (hb4.mono hb3.size);obtain⟨N4,m⟩:=qnm K.heap.size;have s:w4.heap[N4]? =some (.cells #[.int .i64 (n:Int),.int .i64 (pn:Int),.int .i64 g] a14 (0,0)):=by rw[h,m];exact Ae K _
 have b:Below o.heap.size o w4:=E.out.1.trans (c.mono E.out.1.size);have a:=(b.block N (ltH f.out.2.2.1)).trans f.out.2.2.1;obtain⟨p0,p1,p2⟩:=a0C s;obtain⟨z0,z1,z2⟩:=a0C a;have f0:=a0e a 0;have f1:=a0e a 1;have f2:=a0e a 2;have a3:=ltH a;have HF:=qh (show Own w4 w.heap.size (.slice H 16 O) id/\Below w.heap.size w w4/\w4.heap[N]? =some (.cells #[.int .i64 0,.int .i64 0,.int .i64 0] a14 (0,0)) from⟨E.out.2.below c,f.out.2.1.trans (b.mono f.out.2.1.size),a⟩);have z:=qh (aI h m);clear hb3 hb4 c s b a h m x;go_upto_region 6 with fail
 rw[<-z.out.1,<-z.out.2];go_wp2_with fail;refine Aj (v:=.tuple #[.agg #[.int .i64 (n:Int),.int .i64 (pn:Int),.int .i64 g],.slice H 16 O,.int .i64 0]) (by simp[results,Tryz.results128,go_sem,z0,z1,z2]) rfl ?_;obtain⟨F,Y,h3⟩:=HF.out;have hc:=chg3 w4 N (.int .i64 (n:Int)) (.int .i64 (pn:Int)) (.int .i64 g);have a4:=f.out.2.2.2;exact⟨⟨_,rfl,a0G hc h3 (by decide) F⟩,Y.trans (hc.below Y.size (fun k _ e=>by omega))⟩
theorem b0I{w:World}{d sb mb n:Nat}{S:List UInt8}(M:Dk w d sb mb n S nM)(s p:Int)(g z:Nat)(D:isPlan s p g)(K:∀i,z<=i->i<g->∃first:Nat,(first:Int)=1+2 * p+i * 8/\first+8<=n/\catS S nM first 8=List.replicate 1024 0):
  Calls Tryz.prog 131 #[.pointer (some ⟨d,0,none⟩),.agg #[.int .i64 s,.int .i64 p,.int .i64 (g:Int)],.int .i64 (z:Int)] w fun e w'=>e= .returned (.bool false)/\Below w.heap.size w w':=by
 obtain⟨q,h⟩:=qnm (w.alloc (.cells #[.int .i64 s,.int .i64 p,.int .i64 (g:Int)] a14));have hb0:=qba h;have m:q.heap[w.heap.size]? =some (.cells #[.int .i64 s,.int .i64 p,.int .i64 (g:Int)] a14 (0,0)):=by rw[h];exact Ae w _
 obtain⟨N,F⟩:=qnm w.heap.size;rw[<-F] at m;have Q:=D.bd;have E:=qh (aI M (aI D K));have k:=qh (aI h (aI hb0 (aI m F)));clear M D K h hb0 m F;go_enter Tryz.func131,Tryz.ntmps131;go_upto_region 1 with fail
 rw[<-k.out.1,<-k.out.2.2.2];go_wp2_with fail;go_loopw [7,9,10] (fun i _ _ wr=>∃j:Nat,z<=j/\(j=z∨j<=g)/\i= .int .i64 (j:Int)/\Below q.heap.size q wr) (fun i _ _ _=>g - (intOf i).toNat);case atStart=>exact ⟨z,Aa _,.inl rfl,rfl,Ab _ _⟩
 case round=>
  obtain⟨j,c,v,rfl,b⟩:=hrel;have t:=(b.block N (ltH k.out.2.2.1)).trans k.out.2.2.1;obtain⟨T,U,X⟩:=a0C t;by_cases a:j<g
  ·obtain⟨first,A,C,l⟩:=E.out.2.2 j c a;have I:(j:Int)<(g:Int):=by omega
   have o:=a6k (E.out.1.below (k.out.2.1.trans (b.mono k.out.2.1.size))) s p g E.out.2.1 j first I A C
   rw[l] at o;have x:=qh o;obtain⟨H,f⟩:=qnm (j+1);have V:IntKind.i64.wrap ((j:Int)+1)=(H:Int):=by rw[Ak _ (by omega)];omega
   have J:=qh (aI f (aI c a));have HB:=qh b;clear A C l o f c v a b t;go_wp2_with fail;refine x.out.mono ?_;rintro e L ⟨W,rfl,y,hb1⟩;obtain⟨R,O,rfl,B⟩:=y.bsn (n:=1024) (by simp);have u:=qh (a3J R O L B);have r:=qh (show Below q.heap.size q L from HB.out.trans (hb1.mono HB.out.size));clear y B hb1 x;go_wp2_with fail;refine u.out.mono ?_;rintro e w2 ⟨rfl,hb2⟩;unfold b6X;have G:=qh (show Below q.heap.size q (w2.alloc (.cells #[.int .i64 0,.int .u64 0,.int .i64 0,.int .i64 0,.slice none 0 0,.slice none 0 0] THd)) from
    (r.out.trans (hb2.mono r.out.size)).alloc (Ad r.out.size hb2.size) _)
   clear hb2 u;go_wp2_with fail;go_roundw;case rel=>
    obtain⟨f,c,a⟩:=J.out;exact⟨H,by omega,.inr (by omega),rfl,G.out⟩
   case measure=>
    obtain⟨f,c,a⟩:=J.out;show g - (H:Int).toNat<g - (j:Int).toNat;omega
  ·have I:¬(j:Int)<(g:Int):=by omega
   have P:=qh (show Below w.heap.size w wr from k.out.2.1.trans (b.mono k.out.2.1.size));clear b t c v a;go_wp2_with fail;go_ret;exact⟨rfl,P.out⟩
end
end Go.Proofs.YtbemfdcjieakdaaGreatDoor
