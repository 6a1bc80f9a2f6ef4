/- TreeAt; TreeSet; TreeLaw; TreeNew; WJ. -/
import Derived.OwnWalk
import Derived.Test.YtbemfdcjieakdaaGreatDoorK10
set_option maxRecDepth 100000
set_option maxHeartbeats 8000000
namespace Go.Proofs.YtbemfdcjieakdaaGreatDoor
section
open Go.RowKit Go.ChangeMaps Go.MapKept
set_option linter.unusedSectionVars false
abbrev TTree:TypeId:=228
abbrev a17:TypeId:=233
abbrev a3c:TypeId:=9
theorem a3f:Maps.Keyed Tryz.prog a3c:=Maps.string_keyed Tryz.underlying9
theorem b8s(s:List UInt8)(h:s.length<=maxLen):keyOf Tryz.prog a3c (.string (a0c s))=some (a0L.lit s):=b5s Tryz.underlying9 s h
structure It where
 n:Nd
 b:List UInt8
 names:List (List UInt8×Nat)
abbrev Tr:=List (Nat×It)
section
variable {κ α : Type} [DecidableEq κ] (S : Spell κ)
def vals(f:κ->α->Value)(L:List (κ×α)):List (κ×Value):=L.map fun p=>(p.1,f p.1 p.2)
theorem a1p(f:κ->α->Value)(L:List (κ×α)):(vals f L).length=L.length:=by simp[vals]
theorem a1c(f:κ->α->Value)(L:List (κ×α))(k:κ):getK k (vals f L)=(getK k L).map (f k):=by
 unfold getK vals
 induction L with
 | nil=>rfl
 | cons y r a=>
  simp only[Au,List.find?_cons];by_cases h:y.1=k
  ·simp[h]
  ·simpa[h] using a
theorem a3X(f:κ->α->Value)(L:List (κ×α))(k:κ):a1K k (vals f L)=vals f (a1K k L):=by
 unfold a1K vals;rw[List.filter_map];rfl
theorem b5d(f:κ->α->Value)(L:List (κ×α))(x:κ×α):a6O S (x.1,f x.1 x.2) (vals f L)=vals f (a6O S x L):=by
 unfold vals
 induction L with
 | nil=>rfl
 | cons y r a=>
  simp only[Au,a6O];split
  ·rfl
  ·rw[Au,<-a]
theorem a3W(f:κ->α->Value)(L:List (κ×α))(k:κ)(v:α):a1w S k (f k v) (vals f L)=vals f (a1w S k v L):=by
 have h:=a3X f L k;unfold a1K at h;unfold a1w;rw[h];exact b5d S f _ (k,v)
theorem a48{f g:κ->α->Value}{L:List (κ×α)}(h:∀k v,getK k L=some v->f k v=g k v)(m:L.Pairwise (fun p q=>p.1≠q.1)):vals f L=vals g L:=by
 unfold vals;refine AY fun p a=>?_
 rw[h p.1 p.2];unfold getK
 induction L with
 | nil=>simp at a
 | cons y r l=>
  rw[List.find?_cons];obtain⟨j,n⟩:=Bc.1 m;rcases AP.1 a with rfl | a
  ·simp
  ·have c:=j p a;simp only[Aq c];exact l (fun k v hk=>h k v (by
    unfold getK at hk⊢;rw[List.find?_cons];by_cases e:y.1=k
    ·exfalso;obtain⟨q,i,_⟩:=AU.1 hk;have d:=List.find?_some i;have b:=List.mem_of_find?_eq_some i;exact j q b (by simpa[e] using(BD d).symm)
    ·simpa[e] using hk)) n a
theorem a0s{L:List (κ×α)}(d:L.Pairwise (fun p q=>p.1≠q.1)){k:κ}{v:α}(h:(k,v)∈L):getK k L=some v:=by
 unfold getK
 induction L with
 | nil=>simp at h
 | cons y r c=>
  obtain⟨b,a⟩:=Bc.1 d;rw[List.find?_cons];rcases AP.1 h with rfl | h
  ·simp
  ·have:=b _ h;simp only[Aq this];exact c a h
theorem a2i{L:List (κ×α)}{k:κ}{v:α}(h:getK k L=some v):(k,v)∈L:=by
 unfold getK at h;obtain⟨q,c,rfl⟩:=AU.1 h;have b:=List.find?_some c;have a:=List.mem_of_find?_eq_some c;have:q.1=k:=by simpa using b
 subst this;exact a
end
def a3v(_:List UInt8)(n:Nat):Value:=.int .i64 (n:Int)
def ival(F:Nat->Nat)(i:Nat)(_:It):Value:=.pointer (some ⟨F i,0,none⟩)
def itC(n:Nd)(v m:Value):Array Value:=#[.int .i64 n.id,.int .i64 n.kind,.int .i64 n.links,.int .i64 n.size,.int .u64 (n.til:Int),.bool n.closed,v,m]
def ItAt(w:World)(L B g nb:Nat)(x:It):Prop:=
 B<=g/\∃v m,w.heap[g]? =some (.cells (itC x.n v m) a17 (0,0))/\Own w L v x.b/\
  (x.n.kind=2->m= .map (some nb)/\B<=nb/\MapAt a0L Tryz.prog a3c w nb (vals a3v x.names))/\(x.n.kind≠2->m= .map none/\x.names=[])
theorem ItAt.below{w w':World}{L B g nb:Nat}{x:It}(h:ItAt w L B g nb x)(a:Below w.heap.size w w'):ItAt w' L B g nb x:=by
 obtain⟨j,v,m,b,h3,d,e⟩:=h;refine⟨j,v,m,(a.block g (Array.getElem?_eq_some_iff.1 b).1).trans b,h3.below a,fun hk=>?_,e⟩;obtain⟨c,f,i⟩:=d hk;exact⟨c,f,i.below a0L a⟩
theorem ItAt.lt{w:World}{L B g nb:Nat}{x:It}(h:ItAt w L B g nb x):g<w.heap.size:=by
 obtain⟨b,v,m,a,_⟩:=h;exact(Array.getElem?_eq_some_iff.1 a).1
theorem ItAt.ltn{w:World}{L B g nb:Nat}{x:It}(h:ItAt w L B g nb x)(hk:x.n.kind=2):nb<w.heap.size:=by
 obtain⟨d,v,m,c,h3,a,b⟩:=h;exact(a hk).2.2.lt
theorem Own.chg0{S:Nat->Prop}{w w':World}{B:Nat}{v:Value}{xs:List UInt8}(h:Own w B v xs)(e:Chg S w w')(f:∀k,k<w.heap.size->S k->∀C,w.heap[k]?≠some (.cells C TB (0,0))):Own w' B v xs:=by
 refine e.own h fun k hk b=>?_
 rcases h.parts with⟨rfl,rfl⟩ | ⟨g,cap,rfl,i,d⟩
 ·simp[Value.ownBlock] at hk
 ·have:g=k:=by simpa[Value.ownBlock] using hk
  subst this;obtain⟨c,a,_⟩:=d;exact f g (Array.getElem?_eq_some_iff.1 a).1 b _ a
theorem ItAt.chg{S:Nat->Prop}{w w':World}{L B g nb:Nat}{x:It}(h:ItAt w L B g nb x)(a:Chg S w w')(p:∀k,k<w.heap.size->S k->∀C,w.heap[k]?≠some (.cells C TB (0,0)))(l:¬S g)(j:x.n.kind=2->¬S nb):ItAt w' L B g nb x:=by
 obtain⟨o,v,m,c,h3,e,f⟩:=h;refine⟨o,v,m,(a.block g (Array.getElem?_eq_some_iff.1 c).1 l).trans c,h3.chg0 a p,fun hk=>?_,f⟩;obtain⟨d,i,b⟩:=e hk;exact⟨d,i,b.same a0L (a.block nb b.lt (j hk))⟩
structure TreeIn (w:World) (L B t mb:Nat) (F G:Nat->Nat) (T:Tr):Prop where
 tge:B<=t
 mge:B<=mb
 cel:w.heap[t]? =some (.cells #[.map (some mb)] TTree (0,0))
 map:MapAt numS Tryz.prog TI64 w mb (vals (ival F) T)
 item:∀i x,getK i T=some x->ItAt w L B (F i) (G i) x
 gm:∀i x,getK i T=some x->x.n.kind=2->G i≠mb
 injF:∀i j x y,getK i T=some x->getK j T=some y->F i=F j->i=j
 injG:∀i j x y,getK i T=some x->getK j T=some y->x.n.kind=2->y.n.kind=2->G i=G j->i=j
def TreeAt(w:World)(L B t:Nat)(T:Tr):Prop:=∃mb F G,TreeIn w L B t mb F G T
variable {w w' : World} {L B t mb : Nat} {F G : Nat → Nat} {T : Tr}
theorem TreeIn.lt(h:TreeIn w L B t mb F G T):t<w.heap.size:=(Array.getElem?_eq_some_iff.1 h.cel).1
theorem TreeIn.below(h:TreeIn w L B t mb F G T)(hb:Below w.heap.size w w'):TreeIn w' L B t mb F G T where
 tge:=h.tge
 mge:=h.mge
 cel:=(hb.block t h.lt).trans h.cel
 map:=h.map.below numS hb
 item i x hx:=(h.item i x hx).below hb
 gm:=h.gm
 injF:=h.injF
 injG:=h.injG
theorem TreeAt.below(h:TreeAt w L B t T)(a:Below w.heap.size w w'):TreeAt w' L B t T:=by
 obtain⟨mb,F,G,h⟩:=h;exact⟨mb,F,G,h.below a⟩
theorem ItAt.weaken{B' g nb:Nat}{x:It}(h:ItAt w L B g nb x)(j:B'<=B):ItAt w L B' g nb x:=by
 obtain⟨i,v,m,e,h3,b,c⟩:=h;exact⟨by omega,v,m,e,h3,fun hk=>by obtain⟨a,f,d⟩:=b hk;exact⟨a,by omega,d⟩,c⟩
theorem TreeAt.weaken{B':Nat}(h:TreeAt w L B t T)(a:B'<=B):TreeAt w L B' t T:=by
 obtain⟨mb,F,G,h⟩:=h;exact⟨mb,F,G,{ h with tge:=Ad a h.tge,mge:=Ad a h.mge,item:=fun i x b=>(h.item i x b).weaken a }⟩
theorem TreeIn.uniq(h:TreeIn w L B t mb F G T):T.Pairwise (fun p q=>p.1<q.1):=by
 have:=h.map.rising;unfold vals at this;rw[A2] at this;exact this
end
section
open Go.RowKit Go.ChangeMaps Go.MapKept
set_option linter.unusedSectionVars false
def a01(T:Tr)(i:Nat)(x:It):Tr:=T.map fun p=>if p.1=i then(p.1,x) else p
theorem a0q(T:Tr)(i j:Nat)(x:It):getK j (a01 T i x)=if j=i then(getK i T).map (fun _=>x) else getK j T:=by
 unfold getK a01
 induction T with
 | nil=>by_cases h:j=i <;>simp [h]
 | cons y r b=>
  simp only[Au,List.find?_cons];by_cases c:y.1=i
  ·by_cases a:j=i
   ·subst a;simp[c]
   ·have:¬y.1=j:=by rw[c];exact fun e=>a e.symm
    have d:¬i=j:=fun e=>a e.symm
    simp[c,a,d] at b⊢;exact b
  ·by_cases a:j=i
   ·subst a;simp[c] at b⊢;exact b
   ·simp only[c,a,Cv] at b⊢;by_cases h3:y.1=j
    ·simp[h3]
    ·simpa[h3] using b
theorem a8O(F:Nat->Nat)(T:Tr)(i:Nat)(x:It):vals (ival F) (a01 T i x)=vals (ival F) T:=by
 unfold vals a01;rw[BU];refine AY fun p _=>?_
 simp only[Cx];by_cases h:p.1=i
 ·rw[Ah h];rfl
 ·rw[Ag h]
theorem a4k(T:Tr)(i:Nat)(x:It):(a01 T i x).length=T.length:=by simp[a01]
variable {w w' : World} {L B t mb : Nat} {F G : Nat → Nat} {T : Tr}
theorem TreeIn.block(h:TreeIn w L B t mb F G T){i:Nat}{x:It}(b:getK i T=some x):∃v m,w.heap[F i]? =some (.cells (itC x.n v m) a17 (0,0)):=by
 obtain⟨_,v,m,a,_⟩:=h.item i x b;exact⟨v,m,a⟩
theorem TreeIn.tF(h:TreeIn w L B t mb F G T){i:Nat}{x:It}(c:getK i T=some x):F i≠t/\F i≠mb:=by
 obtain⟨v,m,a⟩:=h.block c;obtain⟨d,f,b,_⟩:=h.map;refine⟨fun e=>?_,fun e=>?_⟩
 ·rw[e,h.cel] at a;injection a with a;injection a with _ a;exact absurd a (by decide)
 ·rw[e,b] at a;injection a with a;cases a
theorem TreeIn.tm(h:TreeIn w L B t mb F G T):t≠mb:=by
 obtain⟨b,c,a,_⟩:=h.map;intro e;have:=h.cel;rw[e,a] at this;injection this with this;cases this
theorem TreeIn.gF(h:TreeIn w L B t mb F G T){i j:Nat}{x y:It}(f:getK i T=some x)(c:getK j T=some y)(hk:y.n.kind=2):F i≠G j:=by
 obtain⟨v,m,a⟩:=h.block f;obtain⟨_,k,o,_,_,b,_⟩:=h.item j y c;obtain⟨_,_,g,l,d,_⟩:=b hk;intro e;rw[e,d] at a;injection a with a;cases a
theorem TreeIn.gt(h:TreeIn w L B t mb F G T){j:Nat}{y:It}(b:getK j T=some y)(hk:y.n.kind=2):G j≠t:=by
 obtain⟨_,f,i,_,_,a,_⟩:=h.item j y b;obtain⟨_,_,d,g,c,_⟩:=a hk;intro e;have:=h.cel;rw[<-e,c] at this;injection this with this;cases this
theorem TreeIn.setItem(h:TreeIn w L B t mb F G T){i:Nat}{x x':It}(hx:getK i T=some x)(hc:Chg (fun k=>k=F i) w w'){v m v':Value}(h1:w.heap[F i]? =some (.cells (itC x.n v m) a17 (0,0)))
  (h2:w'.heap[F i]? =some (.cells (itC x'.n v' m) a17 (0,0))) (hv:Own w' L v' x'.b) (hk:x'.n.kind=x.n.kind) (hn:x'.names=x.names):TreeIn w' L B t mb F G (a01 T i x') where
 tge:=h.tge
 mge:=h.mge
 cel:=(hc.block t h.lt (fun e=>(h.tF hx).1 e.symm)).trans h.cel
 map:=by rw[a8O];exact h.map.same numS (hc.block mb h.map.lt (fun e=>(h.tF hx).2 e.symm))
 item j y hy:=by
  rw[a0q] at hy;by_cases hj:j=i
  ·subst hj;rw[Ah rfl,hx] at hy;injection hy with hy
   subst hy;obtain⟨g1,v0,m0,g2,g3,g4,g5⟩:=h.item j x hx;rw[g2] at h1;injection h1 with h1
   injection h1 with h1
   have hm0:m0=m:=by
    have:=An (fun a:Array Value=>a[7]?) h1;simpa[itC] using this
   refine⟨g1,v',m,h2,hv,fun hk2=>?_,fun hk2=>?_⟩
   ·obtain⟨k1,k2,k3⟩:=g4 (by rw[<-hk];exact hk2);rw[hn];exact⟨by rw[<-hm0];exact k1,k2,k3.same a0L (hc.block _ k3.lt (fun e=>(h.gF hx hx (by rw[<-hk];exact hk2)) e.symm))⟩
   ·obtain⟨k1,k2⟩:=g5 (by rw[<-hk];exact hk2);exact⟨by rw[<-hm0];exact k1,by rw[hn];exact k2⟩
  ·rw[Ag hj] at hy;refine(h.item j y hy).chg hc (fun k _ e C hC=>?_) (fun e=>hj (h.injF j i y x hy hx e)) (fun hk2 e=>(h.gF hx hy hk2) e.symm);subst e;rw[h1] at hC;injection hC with hC
   injection hC with _ hC
   exact absurd hC (by decide)
 gm j y hy hk2:=by
  rw[a0q] at hy;by_cases hj:j=i
  ·subst hj;rw[Ah rfl,hx] at hy;injection hy with hy
   subst hy;exact h.gm j x hx (by rw[<-hk];exact hk2)
  ·rw[Ag hj] at hy;exact h.gm j y hy hk2
 injF a b y z hy hz e:=by
  have hd:∀a y,getK a (a01 T i x')=some y->∃y',getK a T=some y':=fun a y hy=>by
   rw[a0q] at hy;by_cases hj:a=i
   ·subst hj;exact⟨x,hx⟩
   ·rw[Ag hj] at hy;exact⟨y,hy⟩
  obtain⟨y',hy'⟩:=hd a y hy;obtain⟨z',hz'⟩:=hd b z hz;exact h.injF a b y' z' hy' hz' e
 injG a b y z hy hz ky kz e:=by
  have hd:∀a y,getK a (a01 T i x')=some y->y.n.kind=2->∃y',getK a T=some y'/\y'.n.kind=2:=fun a y hy hk2=>by
   rw[a0q] at hy;by_cases hj:a=i
   ·subst hj;rw[Ah rfl,hx] at hy;injection hy with hy
    subst hy;exact⟨x,hx,by rw[<-hk];exact hk2⟩
   ·rw[Ag hj] at hy;exact⟨y,hy,hk2⟩
  obtain⟨y',hy',ky'⟩:=hd a y hy ky;obtain⟨z',hz',kz'⟩:=hd b z hz kz;exact h.injG a b y' z' hy' hz' ky' kz' e
theorem TreeIn.setNames(h:TreeIn w L B t mb F G T){i:Nat}{x:It}{l:List (List UInt8×Nat)}(hx:getK i T=some x)(hk:x.n.kind=2)(hc:Chg (fun k=>k=G i) w w')(hm:MapAt a0L Tryz.prog a3c w' (G i) (vals a3v l)):
  TreeIn w' L B t mb F G (a01 T i ⟨x.n,x.b,l⟩) where
 tge:=h.tge
 mge:=h.mge
 cel:=(hc.block t h.lt (fun e=>(h.gt hx hk) e.symm)).trans h.cel
 map:=by rw[a8O];exact h.map.same numS (hc.block mb h.map.lt (fun e=>(h.gm i x hx hk) e.symm))
 item j y hy:=by
  have hno:∀k,k<w.heap.size->k=G i->∀C,w.heap[k]?≠some (.cells C TB (0,0)):=fun k _ e C hC=>by
   obtain⟨_,v',m',_,_,h4,_⟩:=h.item i x hx;obtain⟨_,_,es,cl,hmm,_⟩:=h4 hk;rw[e,hmm] at hC;injection hC with hC;cases hC
  rw[a0q] at hy;by_cases hj:j=i
  ·subst hj;rw[Ah rfl,hx] at hy;injection hy with hy
   subst hy;obtain⟨g1,v0,m0,g2,g3,g4,g5⟩:=h.item j x hx;refine⟨g1,v0,m0,(hc.block _ (Array.getElem?_eq_some_iff.1 g2).1 (h.gF hx hx hk)).trans g2,g3.chg0 hc hno,fun _=>⟨(g4 hk).1,(g4 hk).2.1,hm⟩,fun hk2=>absurd hk hk2⟩
  ·rw[Ag hj] at hy;exact(h.item j y hy).chg hc hno (fun e=>(h.gF hy hx hk) e) (fun hk2 e=>hj (h.injG j i y x hy hx hk2 hk e))
 gm j y hy hk2:=by
  rw[a0q] at hy;by_cases hj:j=i
  ·subst hj;exact h.gm j x hx hk
  ·rw[Ag hj] at hy;exact h.gm j y hy hk2
 injF a b y z hy hz e:=by
  have hd:∀a y,getK a (a01 T i ⟨x.n,x.b,l⟩)=some y->∃y',getK a T=some y':=fun a y hy=>by
   rw[a0q] at hy;by_cases hj:a=i
   ·subst hj;exact⟨x,hx⟩
   ·rw[Ag hj] at hy;exact⟨y,hy⟩
  obtain⟨y',hy'⟩:=hd a y hy;obtain⟨z',hz'⟩:=hd b z hz;exact h.injF a b y' z' hy' hz' e
 injG a b y z hy hz ky kz e:=by
  have hd:∀a y,getK a (a01 T i ⟨x.n,x.b,l⟩)=some y->y.n.kind=2->∃y',getK a T=some y'/\y'.n.kind=2:=fun a y hy hk2=>by
   rw[a0q] at hy;by_cases hj:a=i
   ·subst hj;exact⟨x,hx,hk⟩
   ·rw[Ag hj] at hy;exact⟨y,hy,hk2⟩
  obtain⟨y',hy',ky'⟩:=hd a y hy ky;obtain⟨z',hz',kz'⟩:=hd b z hz kz;exact h.injG a b y' z' hy' hz' ky' kz' e
theorem TreeIn.delItem(h:TreeIn w L B t mb F G T){i:Nat}(hc:Chg (fun k=>k=mb) w w')(hm:MapAt numS Tryz.prog TI64 w' mb (vals (ival F) (a1K i T))):TreeIn w' L B t mb F G (a1K i T) where
 tge:=h.tge
 mge:=h.mge
 cel:=(hc.block t h.lt h.tm).trans h.cel
 map:=hm
 item j y hy:=by
  rw[a1j] at hy;by_cases hj:j=i
  ·rw[Ah hj] at hy;cases hy
  ·rw[Ag hj] at hy;refine(h.item j y hy).chg hc (fun k _ e C hC=>?_) (fun e=>(h.tF hy).2 e) (fun hk2 e=>h.gm j y hy hk2 e);obtain⟨es,cl,hmm,_⟩:=h.map;rw[e,hmm] at hC;injection hC with hC;cases hC
 gm j y hy hk2:=by
  rw[a1j] at hy;by_cases hj:j=i
  ·rw[Ah hj] at hy;cases hy
  ·rw[Ag hj] at hy;exact h.gm j y hy hk2
 injF a b y z hy hz e:=by
  rw[a1j] at hy hz;by_cases ha:a=i
  ·rw[Ah ha] at hy;cases hy
  ·by_cases hb:b=i
   ·rw[Ah hb] at hz;cases hz
   ·rw[Ag ha] at hy;rw[Ag hb] at hz;exact h.injF a b y z hy hz e
 injG a b y z hy hz ky kz e:=by
  rw[a1j] at hy hz;by_cases ha:a=i
  ·rw[Ah ha] at hy;cases hy
  ·by_cases hb:b=i
   ·rw[Ah hb] at hz;cases hz
   ·rw[Ag ha] at hy;rw[Ag hb] at hz;exact h.injG a b y z hy hz ky kz e
def upd(F:Nat->Nat)(i g j:Nat):Nat:=if j=i then g else F j
theorem TreeIn.addItem(h:TreeIn w L B t mb F G T){i g nb:Nat}{x:It}(hc:Chg (fun k=>k=mb) w w')(hI:ItAt w' L B g nb x)(hg:∀j y,getK j T=some y->F j≠g)(hn:x.n.kind=2->nb≠mb/\∀j y,getK j T=some y->y.n.kind=2->G j≠nb)
  (hm:MapAt numS Tryz.prog TI64 w' mb (vals (ival (upd F i g)) (a1w numS i x T))):TreeIn w' L B t mb (upd F i g) (upd G i nb) (a1w numS i x T) where
 tge:=h.tge
 mge:=h.mge
 cel:=(hc.block t h.lt h.tm).trans h.cel
 map:=hm
 item j y hy:=by
  rw[a1v] at hy;by_cases hj:j=i
  ·rw[Ah hj] at hy;injection hy with hy
   subst hy;unfold upd;rw[Ah hj,Ah hj];exact hI
  ·rw[Ag hj] at hy;unfold upd;rw[Ag hj,Ag hj];refine(h.item j y hy).chg hc (fun k _ e C hC=>?_) (fun e=>(h.tF hy).2 e) (fun hk2 e=>h.gm j y hy hk2 e);obtain⟨es,cl,hmm,_⟩:=h.map;rw[e,hmm] at hC;injection hC with hC;cases hC
 gm j y hy hk2:=by
  rw[a1v] at hy;unfold upd;by_cases hj:j=i
  ·rw[Ah hj] at hy⊢;injection hy with hy
   subst hy;exact(hn hk2).1
  ·rw[Ag hj] at hy ⊢;exact h.gm j y hy hk2
 injF a b y z hy hz e:=by
  rw[a1v] at hy hz;unfold upd at e;by_cases ha:a=i
  ·by_cases hb:b=i
   ·rw[ha,hb]
   ·rw[Ag hb] at hz;rw[Ah ha,Ag hb] at e;exact absurd e.symm (hg b z hz)
  ·rw[Ag ha] at hy;by_cases hb:b=i
   ·rw[Ag ha,Ah hb] at e;exact absurd e (hg a y hy)
   ·rw[Ag hb] at hz;rw[Ag ha,Ag hb] at e;exact h.injF a b y z hy hz e
 injG a b y z hy hz ky kz e:=by
  rw[a1v] at hy hz;unfold upd at e;by_cases ha:a=i
  ·by_cases hb:b=i
   ·rw[ha,hb]
   ·rw[Ag hb] at hz;rw[Ah ha,Ag hb] at e;rw[Ah ha] at hy;injection hy with hy
    subst hy;exact absurd e.symm ((hn ky).2 b z hz kz)
  ·rw[Ag ha] at hy;by_cases hb:b=i
   ·rw[Ag ha,Ah hb] at e;rw[Ah hb] at hz;injection hz with hz
    subst hz;exact absurd e ((hn kz).2 a y hy ky)
   ·rw[Ag hb] at hz;rw[Ag ha,Ag hb] at e;exact h.injG a b y z hy hz ky kz e
end
section
open Go.RowKit
set_option linter.unusedSectionVars false
def a6Y(r:UInt8):Bool:=(97<=r && r<=122) || (48<=r && r<=57) || r == 46 || r == 45 || r == 95
def goodN(s:List UInt8):Bool:=s.all a6Y && (!s.isEmpty && decide (s.length<=16) && !(s == [46]) && !(s == [46,46]))
def fineP(p:List (List UInt8)):Nat:=if p.any (fun s=> !goodN s) then 12 else if 8<p.length then 3 else 0
def a0I(T:Tr):Nat->List (List UInt8)->Nat×Nat
 | i,[]=>(i,0)
 | i,s :: p=>match getK i T with
  | none=>(0,20)
  | some x=>if x.n.kind=2 then(match getK s x.names with | none=>(0,20) | some k=>a0I T k p) else(0,23)
def a0n(id a:Nat):It:=⟨⟨id,a,1,0,0,decide (a=2)⟩,[],[]⟩
def a2p(T:Tr):Nat->Nat->Nat
 | 0,i=>i
 | n+1,i=>if (getK i T).isSome then a2p T n (i+1) else i
def a02(T:Tr)(p:List (List UInt8)):Nat×Nat:=
 match p.getLast? with
 | none=>(0,1)
 | some _=>
  if(a0I T 0 p.dropLast).2≠0 then(0,(a0I T 0 p.dropLast).2)
  else match getK (a0I T 0 p.dropLast).1 T with
   | none=>(0,20)
   | some x=>if x.n.kind=2 then((a0I T 0 p.dropLast).1,0) else(0,23)
def a3D(c:Nat)(T:Tr)(p:List (List UInt8))(a:Nat):Nat×Nat×Tr:=
 if fineP p≠0 then(0,fineP p,T)
 else if(a02 T p).2≠0 then(0,(a02 T p).2,T)
 else match getK (a02 T p).1 T with
  | none=>(0,20,T)
  | some x=>
   if(getK (p.getLast?.getD []) x.names).isSome then(0,21,T)
   else if 64<=T.length then(0,4,T)
   else(a2p T (c+1) 1,0,a01 (a1w numS (a2p T (c+1) 1) (a0n (a2p T (c+1) 1) a) T) (a02 T p).1 ⟨x.n,x.b,a1w a0L (p.getLast?.getD []) (a2p T (c+1) 1) x.names⟩)
structure TrOk (c:Nat) (T:Tr):Prop where
 root:∃x,getK 0 T=some x/\x.n.kind=2
 nd:∀i x,getK i T=some x->i<=c/\x.n.id=(i:Int)/\x.n.Ok/\(x.b.length:Int)=x.n.size/\x.names.length<=c
 nm:∀i x s k,getK i T=some x->getK s x.names=some k->(∃y,getK k T=some y)/\k≠0/\s.length<=16
 len:T.length<=64
theorem TrOk.kind{c:Nat}{T:Tr}(h:TrOk c T){i:Nat}{x:It}(b:getK i T=some x):x.n.kind=1∨x.n.kind=2:=by
 obtain⟨_,_,h3,_⟩:=h.nd i x b;rcases h3.2.2.2.2 with a | a
 ·exact .inl a.1
 ·exact .inr a.1
theorem a3y{c:Nat}{T:Tr}(h:TrOk c T):∀(p:List (List UInt8)) (i:Nat),(∃x,getK i T=some x)->(a0I T i p).2=0->∃x,getK (a0I T i p).1 T=some x
 | [],i,hi,_=>hi
 | s :: p,i,⟨x,hx⟩,h0=>by
  unfold a0I at h0⊢;simp only[hx] at h0⊢;by_cases hk:x.n.kind=2
  ·simp only[hk,BR] at h0⊢;cases a:getK s x.names with
   | none=>simp [a] at h0
   | some k=>
    simp only[a] at h0⊢;exact a3y h p k (h.nm i x s k hx a).1 h0
  ·simp[hk] at h0
theorem a3i{c:Nat}{T:Tr}(_h:TrOk c T)(p:List (List UInt8))(a:(a02 T p).2=0):∃x,getK (a02 T p).1 T=some x/\x.n.kind=2/\(a02 T p).1=(a0I T 0 p.dropLast).1:=by
 unfold a02 at a⊢;cases e:p.getLast? with
 | none=>simp [e] at a
 | some s=>
  simp only[e] at a⊢;by_cases d:(a0I T 0 p.dropLast).2≠0
  ·rw[Ah d] at a;exact absurd a d
  ·rw[Ag d] at a⊢;cases b:getK (a0I T 0 p.dropLast).1 T with
   | none=>simp [b] at a
   | some x=>
    simp only[b] at a⊢;by_cases hk:x.n.kind=2
    ·simp only[hk,BR];exact⟨x,b,hk,trivial⟩
    ·simp[hk] at a
theorem a3k{c:Nat}{T:Tr}(h:TrOk c T):∀(n i:Nat),i+n=c+2->i<=c+1->getK (a2p T n i) T=none/\i<=a2p T n i/\a2p T n i<=c+1
 | 0,i,hn,hi=>by omega
 | n+1,i,hn,hi=>by
  unfold a2p;cases a:getK i T with
  | none=>simp;exact⟨a,by omega⟩
  | some x=>
   simp only[Bp,BR];have:=(h.nd i x a).1;obtain⟨b,d,h3⟩:=a3k h n (i+1) (by omega) (by omega);exact⟨b,by omega,h3⟩
theorem TrOk.set{c:Nat}{T:Tr}(h:TrOk c T){i:Nat}{x x':It}(hx:getK i T=some x)(hk:x'.n.kind=x.n.kind)(hid:x'.n.id=x.n.id)(hok:x'.n.Ok)(hb:(x'.b.length:Int)=x'.n.size)(hn:x'.names=x.names):TrOk c (a01 T i x') where
 root:=by
  obtain⟨y,hy,hy2⟩:=h.root;rw[a0q];by_cases h0:0=i
  ·subst h0;rw[hx] at hy;injection hy with hy
   subst hy;exact⟨x',by rw[Ah rfl,hx];rfl,by rw[hk];exact hy2⟩
  ·exact⟨y,by rw[Ag h0];exact hy,hy2⟩
 nd j y hy:=by
  rw[a0q] at hy;by_cases hj:j=i
  ·subst hj;rw[Ah rfl,hx] at hy;injection hy with hy
   subst hy;obtain⟨h1,h2,h3,h4,h5⟩:=h.nd j x hx;exact⟨h1,by rw[hid];exact h2,hok,hb,by rw[hn];exact h5⟩
  ·rw[Ag hj] at hy;exact h.nd j y hy
 nm j y s k hy hs:=by
  have hmem:∀k,(∃z,getK k T=some z)->∃z,getK k (a01 T i x')=some z:=fun k ⟨z,hz⟩=>by
   rw[a0q];by_cases hki:k=i
   ·subst hki;exact⟨x',by rw[Ah rfl,hx];rfl⟩
   ·exact⟨z,by rw[Ag hki];exact hz⟩
  rw[a0q] at hy;by_cases hj:j=i
  ·subst hj;rw[Ah rfl,hx] at hy;injection hy with hy
   subst hy;rw[hn] at hs;obtain⟨h1,h2,h3⟩:=h.nm j x s k hx hs;exact⟨hmem k h1,h2,h3⟩
  ·rw[Ag hj] at hy;obtain⟨h1,h2,h3⟩:=h.nm j y s k hy hs;exact⟨hmem k h1,h2,h3⟩
 len:=by rw[a4k];exact h.len
theorem TrOk.mono{c a:Nat}{T:Tr}(h:TrOk c T)(g:c<=a):TrOk a T:=
 ⟨h.root,fun i x e=>by obtain⟨j,d,h3,b,f⟩:=h.nd i x e;exact⟨by omega,d,h3,b,by omega⟩,h.nm,h.len⟩
theorem a5k{p:List (List UInt8)}(h:fineP p=0):(∀s∈p,goodN s=true)/\p.length<=8:=by
 unfold fineP at h;by_cases a:p.any (fun s=> !goodN s)=true
 ·rw[Ah a] at h;cases h
 ·rw[Ag a] at h;by_cases d:8<p.length
  ·rw[Ah d] at h;cases h
  ·refine⟨fun s c=>?_,by omega⟩;rw[List.any_eq_true] at a;cases b:goodN s with
   | true=>rfl
   | false=>exact absurd ⟨s,c,by simp[b]⟩ a
theorem a4U{s:List UInt8}(h:goodN s=true):s.length<=16:=by
 unfold goodN at h;simp at h;exact h.2.1.1.2
theorem b54{c:Nat}{T:Tr}(h:TrOk c T)(p:List (List UInt8))(a:Nat)(hk:a=1∨a=2)(V:c<=60000):TrOk (c+1) (a3D c T p a).2.2:=by
 unfold a3D;by_cases q:fineP p≠0
 ·rw[Ah q];exact h.mono (by omega)
 rw[Ag q];by_cases w:(a02 T p).2≠0
 ·rw[Ah w];exact h.mono (by omega)
 rw[Ag w];obtain⟨x,m,F,_⟩:=a3i h p (by omega);simp only[m];by_cases h3:(getK (p.getLast?.getD []) x.names).isSome
 ·rw[Ah h3];exact h.mono (by omega)
 rw[Ag h3];by_cases M:64<=T.length
 ·rw[Ah M];exact h.mono (by omega)
 rw[Ag M];obtain⟨K,Q,J⟩:=a3k h (c+1) 1 (by omega) (by omega);generalize a2p T (c+1) 1=id at K Q J;generalize(a02 T p).1=u at m;have l:(p.getLast?.getD []).length<=16:=by
  cases P:p.getLast? with
  | none=>simp
  | some s=>exact a4U ((a5k (by omega)).1 s (BF P))
 generalize p.getLast?.getD []=s at *;have v:u≠id:=fun e=>by rw[e,K] at m;cases m
 have N:∀j,getK j (a1w numS id (a0n id a) T)=if j=id then some (a0n id a) else getK j T:=fun j=>a1v numS id j _ T
 have f:∀j,getK j (a01 (a1w numS id (a0n id a) T) u ⟨x.n,x.b,a1w a0L s id x.names⟩)=if j=u then some ⟨x.n,x.b,a1w a0L s id x.names⟩ else if j=id then some (a0n id a) else getK j T:=fun j=>by
  rw[a0q,N,N,Ag v,m];rfl
 refine⟨?_,fun j y d=>?_,fun j y n k d g=>?_,?_⟩
 ·obtain⟨r,U,B⟩:=h.root;by_cases L:0=u
  ·subst L;exact⟨⟨x.n,x.b,a1w a0L s id x.names⟩,by rw[f,Ah rfl],F⟩
  ·exact⟨r,by rw[f,Ag L,Ag (by omega)];exact U,B⟩
 ·rw[f] at d;by_cases o:j=u
  ·rw[Ah o] at d;injection d with d
   subst d o;obtain⟨S,A,G,D,O⟩:=h.nd j x m;refine⟨by omega,A,G,D,?_⟩;have:=b0e a0L s id x.names;show(a1w a0L s id x.names).length<=c+1;omega
  ·rw[Ag o] at d;by_cases t:j=id
   ·rw[Ah t] at d;injection d with d
    subst d t;refine⟨J,rfl,?_,rfl,by simp[a0n]⟩;unfold a0n Nd.Ok;simp only;refine⟨by omega,by omega,by omega,by omega,?_⟩;rcases hk with rfl | rfl
    ·exact .inl (by simp)
    ·exact .inr (by simp)
   ·rw[Ag t] at d;obtain⟨S,A,G,D,O⟩:=h.nd j y d;exact⟨by omega,A,G,D,by omega⟩
 ·have i:∀k,(∃z,getK k T=some z)->∃z,getK k (a01 (a1w numS id (a0n id a) T) u ⟨x.n,x.b,a1w a0L s id x.names⟩)=some z:=fun k ⟨z,R⟩=>by
   rw[f];by_cases q:k=u
   ·exact⟨_,Ah q⟩
   ·by_cases w:k=id
    ·exact⟨_,by rw[Ag q,Ah w]⟩
    ·exact⟨z,by rw[Ag q,Ag w];exact R⟩
  rw[f] at d;by_cases o:j=u
  ·rw[Ah o] at d;injection d with d
   subst d;simp only at g;rw[a1v] at g;by_cases E:n=s
   ·rw[Ah E] at g;injection g with g
    subst g E;exact⟨⟨a0n id a,by rw[f,Ag (fun e=>v e.symm),Ah rfl]⟩,by omega,l⟩
   ·rw[Ag E] at g;obtain⟨C,H,I⟩:=h.nm u x n k m g;exact⟨i k C,H,I⟩
  ·rw[Ag o] at d;by_cases t:j=id
   ·rw[Ah t] at d;injection d with d
    subst d;simp[a0n,getK] at g
   ·rw[Ag t] at d;obtain⟨C,H,I⟩:=h.nm j y n k d g;exact⟨i k C,H,I⟩
 ·rw[a4k];have:=b0e numS id (a0n id a) T;omega
end
section
open Go.RowKit Go.ChangeMaps Go.MapKept
theorem a1b{w w':World}{b:Array Oper}{rest:List Oper}{o:Oper}{a:Act}{Q:Exit->Act->World->Prop}(e:o.guard=none)(m x v:Operand)(t:TypeId)
  (d:o.op=Op.mapUpdate t m x v∨o.op=Op.insert t m x v) (f c val:Value) (g:a.eval m=f) (j:a.eval x=c) (hv:a.eval v=val) (i:(Instr.mapUpdate t f c val).run Tryz.prog w= .ok () w')
  (h:wpList Tryz.prog b Q rest (a.put o.dst undef) w'):wpList Tryz.prog b Q (o :: rest) a w:=by
 refine BX e fun K hK=>?_
 unfold Oper.wp;rcases d with d | d <;>simp [execOp,d,g,j,hv,i,Result.andThen] <;>exact hK _ _ h
theorem a0m{w:World}{g:Nat}{n:Nd}{v m:Value}(h:w.heap[g]? =some (.cells (itC n v m) a17 (0,0))):
  w.cell? ⟨g,0,none⟩=some (.int .i64 n.id)/\w.cell? ⟨g,1,none⟩=some (.int .i64 n.kind)/\w.cell? ⟨g,2,none⟩=some (.int .i64 n.links)/\w.cell? ⟨g,3,none⟩=some (.int .i64 n.size)/\w.cell? ⟨g,4,none⟩=some (.int .u64 (n.til:Int))/\
   w.cell? ⟨g,5,none⟩=some (.bool n.closed)/\w.cell? ⟨g,6,none⟩=some v/\w.cell? ⟨g,7,none⟩=some m:=
 ⟨a0a h 0,a0a h 1,a0a h 2,a0a h 3,a0a h 4,a0a h 5,a0a h 6,a0a h 7⟩
theorem a0Q{w:World}{b i:Nat}{C:Array Value}{t:TypeId}(h:w.heap[b]? =some (.cells C t (0,0)))(u:Value):(w.setCell ⟨b,i,none⟩ u).heap[b]? =some (.cells (C.setIfInBounds i u) t (0,0)):=by
 simp only[World.setCell,Array.getElem?_modify,Ah];rw[h];rfl
theorem a9m(L id a:Nat)(hk:a=1∨a=2)(w:World):
  Calls Tryz.prog 154 #[.int .i64 (id:Int),.int .i64 (a:Int)] w fun e w'=>e= .returned (.pointer (some ⟨w.heap.size,0,none⟩))/\ItAt w' L w.heap.size w.heap.size (w.heap.size+1) (a0n id a)/\Below w.heap.size w w'/\(a=2->w.heap.size+1<w'.heap.size):=by
 rcases hk with rfl | rfl
 ·have b:ItAt (w.alloc (.cells (itC (a0n id 1).n (.slice none 0 0) (.map none)) a17)) L w.heap.size w.heap.size (w.heap.size+1) (a0n id 1):=
   ⟨Aa _,_,_,Ae w _,Own.nil _ _,fun h=>absurd h (by simp[a0n]),fun _=>⟨rfl,rfl⟩⟩
  have c:=qh (aI b (Below.alloc (Ab w.heap.size w) (Aa _) (.cells (itC (a0n id 1).n (.slice none 0 0) (.map none)) a17)));clear b;go_enter Tryz.func154,Tryz.ntmps154;go_wp2_with fail;go_ret;exact⟨rfl,c.out.1,c.out.2,fun h=>absurd h (by omega)⟩
 ·have g:=@run_makeMap Tryz.prog;have f:=(AW (w.alloc (.cells (itC (a0n id 2).n (.slice none 0 0) (.map (some (w.heap.size+1)))) a17)) (.map #[] 0) w.heap.size (by simp)).trans (Ae w _);have d:=MapAt.made a0L (P:=Tryz.prog) (k:=a3c) (w.alloc (.cells (itC (a0n id 2).n (.slice none 0 0) (.map (some (w.heap.size+1)))) a17));simp only[AR] at d;have b:ItAt ((w.alloc (.cells (itC (a0n id 2).n (.slice none 0 0) (.map (some (w.heap.size+1)))) a17)).alloc (.map #[] 0)) L w.heap.size w.heap.size (w.heap.size+1) (a0n id 2):=
   ⟨Aa _,_,_,f,Own.nil _ _,fun _=>⟨rfl,by omega,d⟩,fun h=>absurd rfl h⟩
  have c:=qh (aI b (show Below w.heap.size w _ from(((Ext.refl w).alloc (.cells (itC (a0n id 2).n (.slice none 0 0) (.map (some (w.heap.size+1)))) a17)).alloc (.map #[] 0)).1));clear b f d;go_enter Tryz.func154,Tryz.ntmps154;go_wp2_with fail;go_ret;exact⟨rfl,c.out.1,c.out.2,fun _=>by simp⟩
theorem a04:Tryz.prog.underlying 226=some (.map TI64 229):=Tryz.underlying226
theorem b5j(L:Nat)(w:World):
  Calls Tryz.prog 125 #[] w fun e w'=>∃t,e= .returned (.pointer (some ⟨t,0,none⟩))/\TreeAt w' L w.heap.size t [(0,a0n 0 2)]/\Below w.heap.size w w':=by
 have H:=@run_makeMap Tryz.prog;have D:=qh (a9m L 0 2 (.inr rfl) (w.alloc (.map #[] 0)));have G:=qh (MapAt.made numS (P:=Tryz.prog) (k:=TI64) w);have E:=qh ((Ext.refl w).alloc (.map #[] 0));go_enter Tryz.func125,Tryz.ntmps125;go_wp2_with fail;refine D.out.mono ?_;rintro e J ⟨rfl,r,g,m⟩;have f:=G.out.below numS g;obtain⟨w2,B,p,u⟩:=f.put numS a1m a04 (by simp) (a9I 0 (by omega)) (.pointer (some ⟨w.heap.size+1,0,none⟩));simp only[AR] at B r g m;have b:=a0E u;have c:ItAt w2 L (w.heap.size+1) (w.heap.size+1) (w.heap.size+2) (a0n 0 2):=r.chg b (fun k _ e C q=>by
  subst e;obtain⟨K,I,F,_⟩:=f;rw[F] at q;injection q with q;cases q) (by omega) (fun _=>by omega)
 have d:Ext w.heap.size w w2:=⟨((E.out.step (by simpa using g)).1).trans (b.below (by have:=g.size;simp at this;omega) (fun k _ e=>by omega)),by have:=b.size;have:=g.size;simp at this;omega⟩
 have o:=c.lt;have n:=c.ltn rfl;have A:TreeIn (w2.alloc (.cells #[.map (some w.heap.size)] TTree)) L w.heap.size w2.heap.size w.heap.size (fun _=>w.heap.size+1) (fun _=>w.heap.size+2) [(0,a0n 0 2)]:=by
  have h:=(Ab w2.heap.size w2).alloc (Aa _) (.cells #[.map (some w.heap.size)] TTree);refine⟨d.2,Aa _,Ae w2 _,p.below numS h,fun i x a=>?_,fun i x a _=>by omega,fun i j x y a z _=>?_,fun i j x y a z _ _ _=>?_⟩
  ·have:i=0/\x=a0n 0 2:=by
    unfold getK at a;by_cases l:0=i
    ·subst l;simp at a;exact⟨rfl,a.symm⟩
    ·simp[l] at a
   obtain⟨rfl,rfl⟩:=this;exact(c.below h).weaken (by omega)
  all_goals (
   have s:∀i (x:It),getK i [(0,a0n 0 2)]=some x->i=0:=fun i x a=>by
    unfold getK at a;by_cases l:0=i
    ·exact l.symm
    ·simp[l] at a
   rw[s i x a,s j y z])
 have v:=qh (aI A (d.alloc (.cells #[.map (some w.heap.size)] TTree)));clear A d c b f p u r g m o n;go_wp2_with (first
  | (refine a1b rfl _ _ _ _ (.inr rfl) _ _ _ rfl rfl rfl B ?_))
 go_ret;exact⟨_,rfl,⟨_,_,_,v.out.1⟩,v.out.2.1⟩
end
section
open Go.RowKit
def WJ(w w3:World)(q:Nat)(g0:Option Nat)(W:World)(L:List UInt8):Prop:=Ext q w W/\WPost w3 q q g0 L W
variable {w w3 W W' : World} {q : Nat} {g0 : Option Nat} {L : List UInt8}
theorem WJ.wi(h:WJ w w3 q g0 W L):WI w q q W L:=by
 obtain⟨a,g,b,_⟩:=h;exact⟨a,g,b⟩
theorem WJ.cell(h:WJ w w3 q g0 W L){k o:Nat}(hk:k<w3.heap.size)(d:k≠q)(c:g0≠some k):W.cell? ⟨k,o,none⟩=w3.cell? ⟨k,o,none⟩:=by
 obtain⟨f,g,e,b,_⟩:=h;exact b.cell hk (fun a=>by rcases a with a | a;exact d a;exact c a)
theorem WJ.start_at(h:WI w q q W L)(b:Below W.heap.size W W'):∃g0,WJ w W' q g0 W' L/\(∀k,g0=some k->k<W.heap.size)/\q<W.heap.size:=by
 obtain⟨c,g,a⟩:=h;exact⟨g,⟨c.step b,g,a.below b,Chg.refl _ _,.inl rfl⟩,fun k hk=>by subst hk;exact a.row_lt.1,a.lt⟩
theorem WJ.nest_at(h:WJ w w3 q g0 W L)(a:Below W.heap.size W W'):∃g1,WJ w W' q g1 W' L/\(∀k,g1=some k->k<W.heap.size)/\q<W.heap.size/\∀c L2,WJ w W' q g1 c L2->WJ w w3 q g0 c L2:=by
 obtain⟨f,g,b,e,i⟩:=h;exact⟨g,⟨f.step a,g,b.below a,Chg.refl _ _,.inl rfl⟩,fun k hk=>by subst hk;exact b.row_lt.1,b.lt,fun c L2 d=>⟨d.1,WPost.trans (e.step a) i d.2⟩⟩
theorem WJ.post{L':List UInt8}{g:Option Nat}(d:Ext q w W)(b:Wr W q q g L)(c:Chg (WS q g0) w3 W)(e:g=g0∨∃k,g=some k/\w3.heap.size<=k)(a:WPost W q q g L' W'):WJ w w3 q g0 W' L':=by
 refine⟨?_,WPost.trans c e a⟩;obtain⟨g2,h,f,h3⟩:=a;exact d.to (b.belowOf f)
theorem b0N(n:Nat)(h:WJ w w3 q g0 W L)(c:n<=9223372036854775807)(d:L.length+8<=big):
  Calls Tryz.prog 99 #[.pointer (some ⟨q,0,none⟩),.int .i64 (n:Int)] W fun e w'=>e= .returned (.tuple #[])/\WJ w w3 q g0 w' (L ++be n 2):=by
 obtain⟨f,g,a,b,i⟩:=h;exact(a3U q q n g L W a c d).mono fun e w' ⟨j,k⟩=>⟨j,WJ.post f a b i k⟩
theorem b2I(n:Nat)(h:WJ w w3 q g0 W L)(c:L.length+8<=big):
  Calls Tryz.prog 71 #[.pointer (some ⟨q,0,none⟩),.int .u64 (n:Int)] W fun e w'=>e= .returned (.tuple #[])/\WJ w w3 q g0 w' (L ++be n 8):=by
 obtain⟨d,g,a,b,f⟩:=h;exact(a8D q q n g L W a c).mono fun e w' ⟨i,j⟩=>⟨i,WJ.post d a b f j⟩
theorem a5K{a:Option Addr}{b cap:Nat}{ys:List UInt8}(h:WJ w w3 q g0 W L)(k:Below W.heap.size W W')(n:Bs W' a b cap ys)(f:0<b->∀c,a=some c->c.block<q∨W.heap.size<=c.block)(r:L.length+65545<=big):
  Calls Tryz.prog 98 #[.pointer (some ⟨q,0,none⟩),.slice a b cap] W' fun e w'=>e= .returned (.tuple #[])/\WJ w w3 q g0 w' (L ++a0j ys):=by
 obtain⟨s,g,j,p,o⟩:=h;refine(a47 q q g L a b cap ys W' (j.below k) n ?_ r).mono fun e w' ⟨m,i⟩=>⟨m,WJ.post (s.step k) (j.below k) (p.step k) o i⟩
 intro l c d hk;have m:=j.lt;rcases hk with hk | hk
 ·rcases f l c d with i | i <;>omega
 ·subst hk;have h3:=j.row_lt;rcases f l c d with i | i <;>omega
theorem b8h{a:Option Addr}{b cap:Nat}{ys:List UInt8}(h:WJ w w3 q g0 W L)(d:Bs W a b cap ys)(i:L.length+b<=big):
  Calls Tryz.prog 72 #[.pointer (some ⟨q,0,none⟩),.slice a b cap] W fun e w'=>e= .returned (.tuple #[])/\WJ w w3 q g0 w' (L ++ys):=by
 obtain⟨j,g,c,f,k⟩:=h;exact(a5J q q g L a b cap ys W c d i).mono fun e w' ⟨l,m⟩=>⟨l,WJ.post j c f k m⟩
end
end Go.Proofs.YtbemfdcjieakdaaGreatDoor
