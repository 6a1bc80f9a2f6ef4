/- TreeCopy; Build. -/
import Derived.Test.YtbemfdcjieakdaaGreatDoorK18
set_option maxRecDepth 100000
set_option maxHeartbeats 8000000
namespace Go.Proofs.YtbemfdcjieakdaaGreatDoor
section
open Go.RowKit Go.ChangeMaps Go.MapKept Go.Maps
theorem a7e{d:Type}:∀(A B:List (Nat×d)),A.Pairwise (fun p q=>p.1<q.1)->B.Pairwise (fun p q=>p.1<q.1)->(∀k,getK k A=getK k B)->A=B
 | [],[],_,_,_=>rfl
 | [],y :: r,_,_,h=>by have:=h y.1;simp[getK] at this
 | x :: r,[],_,_,h=>by have:=h x.1;simp[getK] at this
 | x :: r,y :: s,ha,hb,h=>by
  obtain⟨i,n⟩:=Bc.1 ha;obtain⟨g,o⟩:=Bc.1 hb;have a:∀ {k:Nat} {v:d} {L:List (Nat×d)},getK k L=some v->(k,v)∈L:=fun h=>a2i h
  have f:getK x.1 (x :: r)=some x.2:=by simp[getK]
  have l:getK y.1 (y :: s)=some y.2:=by simp[getK]
  have m:x.1=y.1:=by
   have c:=a ((h x.1) ▸ f);have b:=a ((h y.1).symm ▸ l);rcases AP.1 c with c | c
   ·exact An Prod.fst c
   ·rcases AP.1 b with b | b
    ·exact(An Prod.fst b).symm
    ·have:=g _ c;have:=i _ b;simp only at *;omega
  have t:x.2=y.2:=by
   have:=h x.1;rw[f,m,l] at this;injection this
  have u:x=y:=Prod.ext m t;subst u;rw[a7e r s n o (fun k=>by
   have hk:=h k;unfold getK at hk⊢;rw[List.find?_cons,List.find?_cons] at hk;by_cases e:x.1=k
   ·have j:∀(L:List (Nat×d)),(∀p∈L,x.1<p.1)->L.find? (fun p=>decide (p.1=k))=none:=fun L w=>CB.2 (fun p z=>by have:=w p z;simp;omega)
    rw[j r i,j s g]
   ·simpa[e] using hk)]
variable {w : World} {L B t mb c : Nat} {F G : Nat → Nat} {T : Tr}
theorem a7H{w w':World}{d c g:Nat}{n:Nd}{v m:Value}
  (h:w.cell? ⟨d,0,none⟩=some (Value.map (some c))/\w.cell? ⟨g,0,none⟩=some (Value.int .i64 n.id)/\w.cell? ⟨g,1,none⟩=some (Value.int .i64 n.kind)/\w.cell? ⟨g,2,none⟩=some (Value.int .i64 n.links)/\w.cell? ⟨g,3,none⟩=some (Value.int .i64 n.size)/\w.cell? ⟨g,4,none⟩=some (Value.int .u64 (n.til:Int))/\w.cell? ⟨g,5,none⟩=some (Value.bool n.closed)/\w.cell? ⟨g,6,none⟩=some v/\w.cell? ⟨g,7,none⟩=some m)
  (r:d<w.heap.size) (b:g<w.heap.size) (a:Below w.heap.size w w'):
  w'.cell? ⟨d,0,none⟩=some (Value.map (some c))/\w'.cell? ⟨g,0,none⟩=some (Value.int .i64 n.id)/\w'.cell? ⟨g,1,none⟩=some (Value.int .i64 n.kind)/\w'.cell? ⟨g,2,none⟩=some (Value.int .i64 n.links)/\w'.cell? ⟨g,3,none⟩=some (Value.int .i64 n.size)/\w'.cell? ⟨g,4,none⟩=some (Value.int .u64 (n.til:Int))/\w'.cell? ⟨g,5,none⟩=some (Value.bool n.closed)/\w'.cell? ⟨g,6,none⟩=some v/\w'.cell? ⟨g,7,none⟩=some m:=by
 obtain⟨f,q,o,h3,e,k,l,j,i⟩:=h;exact⟨(a.cell (p:=⟨d,0,none⟩) r).trans f,(a.cell (p:=⟨g,0,none⟩) b).trans q,(a.cell (p:=⟨g,1,none⟩) b).trans o,(a.cell (p:=⟨g,2,none⟩) b).trans h3,(a.cell (p:=⟨g,3,none⟩) b).trans e,(a.cell (p:=⟨g,4,none⟩) b).trans k,(a.cell (p:=⟨g,5,none⟩) b).trans l,(a.cell (p:=⟨g,6,none⟩) b).trans j,(a.cell (p:=⟨g,7,none⟩) b).trans i⟩
def a5o(w:World)(k:Nat):Prop:=(∀C a c,w.heap[k]? =some (.cells C a c)->a≠TB/\a≠a17/\a≠TTree)/\∀b d,w.heap[k]?≠some (.map b d)
theorem Own.alien{S:Nat->Prop}{w w':World}{v:Value}{xs:List UInt8}(h:Own w L v xs)(e:Chg S w w')(i:∀k,k<w.heap.size->S k->k<L∨a5o w k):Own w' L v xs:=by
 refine e.own h fun k hk c=>?_
 rcases h.parts with⟨rfl,rfl⟩ | ⟨g,cap,rfl,j,f⟩
 ·simp[Value.ownBlock] at hk
 ·have:g=k:=by simpa[Value.ownBlock] using hk
  subst this;obtain⟨d,a,_⟩:=f;rcases i g (Array.getElem?_eq_some_iff.1 a).1 c with b | b
  ·omega
  ·exact(b.1 _ _ _ a).1 rfl
theorem ItAt.alien{S:Nat->Prop}{w w':World}{g nb:Nat}{x:It}(h:ItAt w L B g nb x)(p:L<=B)(e:Chg S w w')(f:∀k,k<w.heap.size->S k->k<L∨a5o w k):ItAt w' L B g nb x:=by
 obtain⟨q,v,m,c,h3,j,l⟩:=h;refine⟨q,v,m,(e.block g (Array.getElem?_eq_some_iff.1 c).1 (fun d=>?_)).trans c,h3.alien e f,fun hk=>?_,l⟩
 ·rcases f g (Array.getElem?_eq_some_iff.1 c).1 d with a | a
  ·omega
  ·exact(a.1 _ _ _ c).2.1 rfl
 ·obtain⟨i,n,b⟩:=j hk;refine⟨i,n,b.same a0L (e.block nb b.lt (fun d=>?_))⟩;rcases f nb b.lt d with a | a
  ·omega
  ·obtain⟨r,s,o,_⟩:=b;exact a.2 _ _ o
theorem TreeIn.alien{S:Nat->Prop}{w w':World}(h:TreeIn w L B t mb F G T)(hLB:L<=B)(hc:Chg S w w')(hs:∀k,k<w.heap.size->S k->k<L∨a5o w k):TreeIn w' L B t mb F G T where
 tge:=h.tge
 mge:=h.mge
 cel:=(hc.block t h.lt (fun hS=>by
  rcases hs t h.lt hS with h6 | h6
  ·have:=h.tge;omega
  ·exact(h6.1 _ _ _ h.cel).2.2 rfl)).trans h.cel
 map:=h.map.same numS (hc.block mb h.map.lt (fun hS=>by
  rcases hs mb h.map.lt hS with h6 | h6
  ·have:=h.mge;omega
  ·obtain⟨es,cl,hm,_⟩:=h.map;exact h6.2 _ _ hm))
 item i x hx:=(h.item i x hx).alien hLB hc hs
 gm:=h.gm
 injF:=h.injF
 injG:=h.injG
theorem a7y{H:Type}{P:Program}{R:Value->Option (DataW H×List MemPlace)}{i:TypeId}{w:World}{b r n:Nat}{D:DataW H}{left:Lit->Bool}{c:Nat}(h:w.ranges P i R b r n D left c):a5o w r:=by
 obtain⟨g,d,e,seen,m,_,_,_,_,f,_⟩:=h;exact⟨fun C k l a=>(by rw[f] at a;injection a with a;cases a),fun g j a=>by rw[f] at a;injection a with a;cases a⟩
theorem b0s{x:It}{mo:Option Nat}{nb:Nat}(d:x.n.kind=2->Value.map mo= .map (some nb)/\MapAt a0L Tryz.prog a3c w nb (vals a3v x.names))(f:x.n.kind≠2->Value.map mo= .map none/\x.names=[]):
  Calls Tryz.prog 148 #[.map mo] w fun e w'=>∃a,e= .returned (.map a)/\Below w.heap.size w w'/\(x.n.kind=2->Value.map a= .map (some w.heap.size)/\MapAt a0L Tryz.prog a3c w' w.heap.size (vals a3v x.names))/\(x.n.kind≠2->Value.map a= .map none/\x.names=[]):=by
 by_cases hk:x.n.kind=2
 ·obtain⟨e,g⟩:=d hk;rw[e];exact(b16 nb _ w g).mono fun e w' ⟨b,c,h3⟩=>⟨_,b,h3,fun _=>⟨rfl,c⟩,fun h=>absurd hk h⟩
 ·obtain⟨e,i⟩:=f hk;rw[e];exact(b15 w).mono fun e w' ⟨b,c⟩=>⟨_,b,by rw[c];exact Ab _ _,fun h=>absurd h hk,fun _=>⟨rfl,i⟩⟩
theorem b6F{b w2 w:World}{id g nb:Nat}{x:It}(c:TreeIn b L B t mb F G T)(hb2:Below b.heap.size b w2)(i:Below w2.heap.size w2 w)(r:ItAt w L b.heap.size g nb x)(d:getK id T=none)(hid:id<=1000000)(z:T.length<=100000)(a:x.n.kind=2->b.heap.size<=nb):
  ∃w',(Instr.mapUpdate 226 (.map (some mb)) (.int .i64 (id:Int)) (.pointer (some ⟨g,0,none⟩))).run Tryz.prog w= .ok () w'/\
   TreeIn w' L B t mb (upd F id g) (upd G id nb) (a1w numS id x T)/\w.mapTurned w' mb:=by
 have H:Below b.heap.size b w:=hb2.trans (i.mono hb2.size);have h:=c.below H;obtain⟨w',K,u,q⟩:=h.map.put numS a1m a04 (by rw[a1p];omega) (a9I id (by omega)) (.pointer (some ⟨g,0,none⟩));have A:=a0E q;have s:=c.map.lt;have J:=r.1;refine⟨w',K,TreeIn.addItem h A ?_ (fun j y l=>?_) (fun hk=>⟨?_,fun j y l o=>?_⟩) ?_,q⟩
 ·have m:=c.tge;have p:=c.lt;exact(r.chg A (fun k _ e C f=>by
   subst e;obtain⟨N,M,E,_⟩:=h.map;rw[E] at f;injection f with f;cases f) (by omega) (fun hk=>by have:=a hk;omega)).weaken (by omega)
 ·have:=c.ltF l;omega
 ·have:=a hk;omega
 ·have:=c.ltG l o;have:=a hk;omega
 ·have D:vals (ival F) T=vals (ival (upd F id g)) T:=a48 (fun k v hk=>by
   unfold ival upd;rw[Ag (fun e=>by rw[e,d] at hk;cases hk)]) h.ne
  have I:Value.pointer (some ⟨g,0,none⟩)=ival (upd F id g) id x:=by unfold ival upd;rw[Ah rfl]
  rw[D,I,a3W] at u;exact u
theorem b4C{a w2:World}{x:It}{v d:Value}(h3:Own a L v x.b)(hb2:Below a.heap.size a w2)(g:x.n.kind=2->d= .map (some a.heap.size)/\MapAt a0L Tryz.prog a3c w2 a.heap.size (vals a3v x.names))(f:x.n.kind≠2->d= .map none/\x.names=[]):
  ItAt (w2.alloc (.cells #[.int .i64 x.n.id,.int .i64 x.n.kind,.int .i64 x.n.links,.int .i64 x.n.size,.int .u64 (x.n.til:Int),.bool x.n.closed,v,d] a17)) L a.heap.size w2.heap.size a.heap.size x:=by
 have c:=(Ab w2.heap.size w2).alloc (Aa _) (.cells #[.int .i64 x.n.id,.int .i64 x.n.kind,.int .i64 x.n.links,.int .i64 x.n.size,.int .u64 (x.n.til:Int),.bool x.n.closed,v,d] a17);refine⟨hb2.size,v,d,Ae w2 _,(h3.below hb2).below c,fun hk=>?_,f⟩;obtain⟨e,h⟩:=g hk;exact⟨e,Aa _,h.below a0L c⟩
theorem a7d{b:Type}{A:List (Nat×b)}{n:Nat}(h:A.Pairwise (fun p q=>p.1<q.1))(a:∀p∈A,p.1<n):A.length<=n:=by
 have:=a6d (n:=n) (A.map fun p=>(p.1,Value.bool true)) 0 (by rw[A2];exact h) (fun p d=>by obtain⟨q,c,rfl⟩:=AX.1 d;exact⟨AH _,a q c⟩);simpa using this
theorem a4y(h:TreeIn w L B t mb F G T)(ok:TrOk c T)(hc:c<=60000)(au:L<=w.heap.size):
  Calls Tryz.prog 75 #[.pointer (some ⟨t,0,none⟩)] w fun e w'=>∃t',e= .returned (.pointer (some ⟨t',0,none⟩))/\TreeAt w' L w.heap.size t' T/\Below w.heap.size w w':=by
 have aw:=@run_makeMap Tryz.prog;have r:=((Ext.refl w).alloc (.map #[] 0)).alloc (.cells #[.map (some w.heap.size)] TTree);have hN:=Ae (w.alloc (.map #[] 0)) (.cells #[.map (some w.heap.size)] TTree);have ag:=(MapAt.made numS (P:=Tryz.prog) (k:=TI64) w).below numS ((Ab _ _).alloc (Aa _) (.cells #[.map (some w.heap.size)] TTree));rw[AR] at hN;have a2:TreeIn ((w.alloc (.map #[] 0)).alloc (.cells #[.map (some w.heap.size)] TTree)) L w.heap.size (w.heap.size+1) w.heap.size (fun _=>0) (fun _=>0) []:=by
  refine⟨by omega,Aa _,hN,ag,fun i x C=>?_,fun i x C=>?_,fun i j x y C=>?_,fun i j x y C=>?_⟩ <;>simp [getK] at C
 have a9:((w.alloc (.map #[] 0)).alloc (.cells #[.map (some w.heap.size)] TTree)).heap.size=w.heap.size+2:=by simp
 obtain⟨w0,a6⟩:=qnm ((w.alloc (.map #[] 0)).alloc (.cells #[.map (some w.heap.size)] TTree));rw[<-a6] at r a2 a9;have a8:=h.below r.1;have c0:=a8.cell0;have W:=a8.map;have HT:=qh (aI h ok);have Q:=qh a2;have aA:=qh r;have ao:=qh a6;have U:=qh a9;have X:=qh h.map.lt;clear r hN ag a2 h ok a6 a9 a8;go_enter Tryz.func75,Tryz.ntmps75;go_upto_region 2 with fail
 rw[<-ao.out];obtain⟨N,hN⟩:=qnm w.heap.size;have HN:=qh hN;rw[<-hN] at Q U⊢;obtain⟨t2,a1⟩:=qnm (N+1);rw[<-a1] at Q⊢;have aF:=qh a1;clear hN a1;go_wp2_with (first
  | (at_range;refine wpList_range_own _ rfl _ 226 rfl TI64 _ a1m a04 RH mb (vals (ival F) T).length _ rfl W ?_;intro wa E M a7)
  | fail)
 obtain⟨r0,a5⟩:=qnm w0.heap.size;rw[<-a5] at E⊢;have O:=qh a5;have ab:=qh (aI M a7);have V:=qh E;clear a5 M a7 E W c0 aw;go_loopw [4] (fun _ wx=>∃(left:Lit->Bool) (ae:Nat) (Y:Tr) (F2 G2:Nat->Nat),wx.ranges Tryz.prog TI64 RH mb r0 (vals (ival F) T).length (a3o numS (vals (ival F) T)) left ae/\TreeIn wx L w.heap.size t2 N F2 G2 Y/\
   (∀k,getK k Y=if left (numS.lit k)=true then none else getK k T)/\Below w.heap.size w wx/\r0<wx.heap.size)
  (fun _ wx=>wx.rangeLeft mb r0)
 case atStart=>
  obtain⟨M,a7⟩:=ab.out;have hb0:Below w0.heap.size w0 wa:=(Ab _ w0).grown M (Aa _) (fun k hk=>by cases hk);refine⟨_,_,[],fun _=>0,fun _=>0,V.out,by rw[<-HN.out];exact Q.out.below hb0,fun k=>?_,(aA.out.step hb0).1,by have:=O.out;omega⟩;rw[a38,a1c];cases hg:getK k T with
  | none=>rfl
  | some x=>rfl
 case round=>
  obtain⟨left,ae,Y,F2,G2,g,o,a,D,s⟩:=hrel;clear V ab Q ao;go_wp2_with (first
   | (at_next;refine wpList_next_ranges _ rfl _ rfl TI64 a1m RH (Value.int .i64) (fun v=>v) (fun aG kl hk=>by obtain⟨x,rfl,_⟩:=Maps.keyOf_int_inv Tryz.underlying3 hk;exact⟨x,rfl⟩) (fun v _ _=>⟨v,rfl⟩) mb r0 (vals (ival F) T).length _ _ _ rfl g ?_ ?_)
   | fail)
  ·intro _ an;have e:Y=T:=a7e Y T o.uniq HT.out.1.uniq (fun k=>by rw[a,an];simp);subst e;have HF:=qh (aI o D);clear g a o D an;go_wp2_with fail;go_ret;exact⟨_,rfl,⟨_,_,_,HF.out.1⟩,HF.out.2⟩
  ·intro xk cv kl y ps w1 af a0 J aj ak f q u R aC;obtain⟨i,rfl,rfl,a4⟩:=a4W (y:=(y,ps)) a0 aj ak;rw[a1c] at a4;obtain⟨x,C,rfl⟩:=AU.1 a4;have hb1:Chg (fun k=>k=r0) wr w1:=⟨u.os,u.tape,u.output,u.size,fun k hk ay=>u.block k hk (fun e=>ay (by injection e))⟩
   have hi:=(HT.out.2.nd i x C).1;have d:Below w.heap.size w w1:=D.trans (hb1.below D.size (fun k _ e=>by have:=O.out;have:=U.out;have:=HN.out;omega));have hI:=(HT.out.1.item i x C).below d;have H:=o.alien au hb1 (fun k _ e=>.inr (by rw[e];exact a7y g));obtain⟨_,v,m,h2,h3,h4,h5⟩:=hI;obtain⟨mo,rfl⟩:∃mo,m= .map mo:=by
    by_cases hk:x.n.kind=2
    ·exact⟨_,(h4 hk).1⟩
    ·exact⟨_,(h5 hk).1⟩
   obtain⟨vn,ad⟩:∃vn,x.b.length=vn:=⟨_,rfl⟩
   obtain⟨va,vc,rfl,_⟩:=h3.bsn ad;obtain⟨d0,d1,d2,d3,d4,d5,d6,d7⟩:=a0m h2;obtain⟨A,I⟩:=qnm N;rw[<-I] at H;have c0:=H.cell0;have aB:=qh (fun w' (hb:Below w1.heap.size w1 w')=>b0s (w:=w') (x:=x) (nb:=G i) (fun hk=>⟨(h4 hk).1,(h4 hk).2.2.below a0L hb⟩) h5);have ap:=qh H.lt;have aa:=qh (Array.getElem?_eq_some_iff.1 h2).1;have av:=qh (H.below (Ab _ w1).drew);have az:=qh (show Own w1.drew L (.slice va vn vc) x.b from h3.below (Ab _ w1).drew);have Z:getK i Y=none:=by rw[a,Ah J]
   have aD:Y.length<=c+1:=a7d o.uniq (fun p hp=>by
    have:=a0s o.ne (k:=p.1) (v:=p.2) hp;rw[a] at this;by_cases hl:left (numS.lit p.1)=true
    ·rw[Ah hl] at this;cases this
    ·rw[Ag hl] at this;have:=(HT.out.2.nd _ _ this).1;omega)
   have a3:=qh (aI Z (aI (show i<=1000000 by omega) (show Y.length<=100000 by omega)));have am:=qh I;have ai:=qh (aI g (aI f (aI a (aI C (aI J (aI d (aI q (aI R s))))))));have aE:=qh d;unfold ival at aC⊢;clear g f u R q ak aj a4 a0 J a Z aD o D hb1 d H ad h2 h3 h4 h5 C I s;go_upto_region 5 with fail
   refine a0h (fun i=>[0,1,2,3,4,5,6,7,8,9,10,11,12,13,14,15,16,17,18,19].contains i) (fun w'=>w'.cell? ⟨t2,0,none⟩=some (Value.map (some A))/\w'.cell? ⟨F i,0,none⟩=some (Value.int .i64 x.n.id)/\w'.cell? ⟨F i,1,none⟩=some (Value.int .i64 x.n.kind)/\w'.cell? ⟨F i,2,none⟩=some (Value.int .i64 x.n.links)/\w'.cell? ⟨F i,3,none⟩=some (Value.int .i64 x.n.size)/\w'.cell? ⟨F i,4,none⟩=some (Value.int .u64 (x.n.til:Int))/\w'.cell? ⟨F i,5,none⟩=some (Value.bool x.n.closed)/\w'.cell? ⟨F i,6,none⟩=some (Value.slice va vn vc)/\w'.cell? ⟨F i,7,none⟩=some (Value.map mo)) (by kernel_rfl) ?_ (fun hHeld=>?_)
   ·go_keep
   refine qtk 0 19 ?_;refine qtk 1 20 ?_;refine qtk 2 21 ?_;refine qtk 3 22 ?_;refine qtk 4 23 ?_;refine qtk 5 24 ?_;refine qtk 6 25 ?_;refine qtk 7 26 ?_;refine qtk 8 27 ?_;refine qtk 9 28 ?_;refine qtk 10 29 ?_;refine qtk 11 30 ?_;refine qtk 12 31 ?_;refine qtk 13 32 ?_;refine qtk 14 33 ?_;refine qtk 15 34 ?_;refine qtk 16 35 ?_;refine qone 17 fun K hK=>?_
   go_simp;refine(aB.out _ (Ab _ _).drew).mono ?_;rintro e w2 ⟨ax,rfl,hb2,aq,al⟩;have hHeld:(fun w'=>w'.cell? ⟨t2,0,none⟩=some (Value.map (some A))/\w'.cell? ⟨F i,0,none⟩=some (Value.int .i64 x.n.id)/\w'.cell? ⟨F i,1,none⟩=some (Value.int .i64 x.n.kind)/\w'.cell? ⟨F i,2,none⟩=some (Value.int .i64 x.n.links)/\w'.cell? ⟨F i,3,none⟩=some (Value.int .i64 x.n.size)/\w'.cell? ⟨F i,4,none⟩=some (Value.int .u64 (x.n.til:Int))/\w'.cell? ⟨F i,5,none⟩=some (Value.bool x.n.closed)/\w'.cell? ⟨F i,6,none⟩=some (Value.slice va vn vc)/\w'.cell? ⟨F i,7,none⟩=some (Value.map mo)) w2:=a7H hHeld ap.out aa.out hb2;go_wp2_with fail;refine hK.out _ _ (fun _=>hHeld) ?_;clear hK K;refine qtk 18 37 ?_;refine qone 19 fun K hK=>?_
   go_simp;have S:=(Ab w2.heap.size w2).alloc (Aa _) (.cells #[.int .i64 x.n.id,.int .i64 x.n.kind,.int .i64 x.n.links,.int .i64 x.n.size,.int .u64 (x.n.til:Int),.bool x.n.closed,.slice va vn vc,.map ax] a17);refine hK.out _ _ (fun _=>a7H hHeld (Ai ap.out hb2.size) (Ai aa.out hb2.size) S) ?_;clear hK K;obtain⟨w3,ar,z,ah⟩:=b6F av.out hb2 S (b4C az.out hb2 aq al) a3.out.1 a3.out.2.1 a3.out.2.2 (fun _=>Aa _);refine qone 20 fun K hK=>?_
   refine a3r (by rfl) (.tmp 22) (.tmp 23) (.tmp 38) 226 rfl _ _ _ (by rfl) (by rfl) (by rfl) ar ?_;refine hK.out _ _ (fun h=>by simp at h) ?_;clear hK K;refine qdon ?_;have l:Chg (fun k=>k=A) w1 w3:=(((Chg.of_below (Ab w1.heap.size w1).drew (fun k=>k=A)).trans (Chg.of_below hb2 (fun k=>k=A)) (fun _ _ h=>h)).trans (Chg.of_below S (fun k=>k=A)) (fun _ _ h=>h)).trans (a0E ah) (fun _ _ h=>h);have HF:=qh (aI z l);clear z l ah S hb2 aq al hHeld;go_wp2_with fail;go_roundw;case rel=>
    obtain⟨z,l⟩:=HF.out;obtain⟨g,f,a,C,J,d,q,R,s⟩:=ai.out;have h2:=am.out;have h3:=X.out;have h4:=HN.out;have h5:=O.out;have h6:=U.out
    (repeat apply Exists.intro)
    refine⟨⟨_,af,_,_,_,f.kept l.toGrown (by intro e;injection e with e;omega) (by intro e;injection e with e;omega),by rw[h2] at z;exact z,fun k=>?_,d.trans (l.below d.size (fun k _ e=>by omega)),by have:=l.size;omega⟩,rfl⟩;rw[a1v,a];by_cases hk:k=i
    ·subst hk;rw[Ah rfl,Ag (by simp[a1q]),C]
    ·rw[Ag hk];simp only[a1q,Aq hk,B5,Cu]
   case measure=>
    obtain⟨z,l⟩:=HF.out;obtain⟨g,f,a,C,J,d,q,R,s⟩:=ai.out;have h2:=am.out;have h3:=X.out;have h4:=HN.out;have h5:=O.out;have h6:=U.out;have ac:=f.kept l.toGrown (by intro e;injection e with e;omega) (by intro e;injection e with e;omega);rw[ac.left_eq,g.left_eq];omega
end
section
open Go.RowKit
theorem Recs.below{w w':World}{a:Option Addr}{c cap:Nat}{ls:List Rc}(h:Recs w a c cap ls)(d:Below w.heap.size w w'):Recs w' a c cap ls:=by
 obtain⟨o,q,h3,f⟩:=h;refine⟨o,q,h3,?_⟩;rcases f with f | ⟨b,off,rfl,e,l⟩
 ·exact .inl f
 ·refine .inr ⟨b,off,rfl,Ai e d.size,fun i r=>?_⟩;obtain⟨n,k,m,g,j⟩:=l i r;exact⟨(d.cell (p:=⟨b,off+i * 3,none⟩) e).trans n,(d.cell (p:=⟨b,off+i * 3+1,none⟩) e).trans k,(d.cell (p:=⟨b,off+i * 3+2,none⟩) e).trans m,g,j.below d⟩
theorem b4L(i f:Nat)(hi:i<=65535)(hf:f<=1099511627776)(w:World)(pa:Option Addr)(pc:Nat)(P:List UInt8)(hP:Bs w pa 32 pc P)(a:Option Addr)(len cap:Nat)(ls:List Rc)(hR:Recs w a len cap ls)(hl:0<len)(aN:len<=1000)
  (A:fitsN 942 ls=len) (H:∀j (h:j<ls.length),ls[j].q=f+j):
  Calls Tryz.prog 103 #[.int .i64 (i:Int),.int .u64 (f:Int),.slice pa 32 pc,.slice a len cap] w fun e w'=>∃v,e= .returned (.tuple #[v,.int .i64 0])/\Own w' w.heap.size v (segBytes i f P ls)/\Below w.heap.size w w':=by
 have b:=hR.1;obtain⟨ar,g⟩:=a6B ls 942 hR.ys_len (by rw[A,b]);obtain⟨gb,go,a5⟩:=hR.at;have a3:=qh (b1j a len cap ls w hR (by omega));rw[A] at a3;have HR:=qh hR;have G:=qh ar;have aJ:=qh H;have HL:=qh (aI b g);have HP:=qh hP;have h0:¬(len=0):=by omega
 have aY:¬((len:Int)=0):=by omega
 have aS:((len:Int) == 0)=false:=by simpa using h0
 have e5:¬(65535:Int)<(i:Int):=by omega
 have e6:¬(1099511627776:Int)<(f:Int):=by omega
 have e7:¬(i:Int)<0:=by omega
 have s:∃g0 o0,Hid (a=some ⟨g0,o0,none⟩/\gb=g0/\go=o0):=⟨gb,go,qh ⟨(a5.out hl).1,rfl,rfl⟩⟩
 clear hP hR ar H A b g s;go_enter Tryz.func103,Tryz.ntmps103;go_wp2_with fail;refine a3.out.mono ?_;rintro e w1 ⟨rfl,hb1⟩;have z:=qh ((Ext.refl w).step hb1);clear hb1;go_wp2_with fail;go_loopw [44] (fun i wr=>∃k:Nat,k<=len/\i= .int .i64 (k:Int)/\Ext w.heap.size w wr) (fun i _=>len - (intOf i).toNat);case atStart=>exact ⟨0,by omega,rfl,z.out⟩
 case round=>
  obtain⟨k,hk,rfl,F⟩:=hrel;clear z;by_cases ak:k<len
  ·obtain⟨rfl,s,d⟩:=a5.out (by omega);have m:k<ls.length:=by rw[HL.out.1];exact ak
   have hc:=d k m;have a0:=(G.out _ (AE m)).1;have R:=aJ.out k m;clear d;generalize ls[k]'m=r at hc a0 R;obtain⟨rk,rq,ra,rm,aB,aW⟩:=r;obtain⟨a6,Y,a4,hq,hB⟩:=hc;simp only at a6 Y a4 hq hB a0 R;have c0:=(F.1.cell (p:=⟨gb,go+k * 3,none⟩) s).trans a6;have c1:=(F.1.cell (p:=⟨gb,go+k * 3+1,none⟩) s).trans Y;have c2:=(F.1.cell (p:=⟨gb,go+k * 3+2,none⟩) s).trans a4;have e1:(0:Int)<=(k:Int):=by omega
   have e2:(k:Int)<(len:Int):=by omega
   have e3:IntKind.i64.wrap ((k:Int)+1)=((k+1:Nat):Int):=by rw[Ak _ (by omega)];omega
   have e4:IntKind.u64.wrap (k:Int)=(k:Int):=by simp[IntKind.wrap,IntKind.bits,IntKind.signed];omega
   have e8:IntKind.u64.wrap ((f:Int)+(k:Int))=(rq:Int):=by simp[IntKind.wrap,IntKind.bits,IntKind.signed];omega
   obtain⟨k2,u⟩:=qnm (k+1);rw[<-u] at e3;have HK:=qh u;have aO:=qh (F.alloc (.cells #[.int .i64 rk,.int .u64 (rq:Int),.slice ra rm aB] 89));clear a6 Y a4 hB hq m u F a0 R hk;go_wp2_with fail;go_roundw;case rel=>exact ⟨k2,by have:=HK.out;omega,rfl,aO.out⟩
   case measure=>
    have m:=HK.out;show len - (k2:Int).toNat<len - (k:Int).toNat;omega
  ·obtain rfl:k=len:=by omega
   clear ak a5 aJ a3;obtain⟨b,g⟩:=HL.out;obtain⟨Q,aC⟩:=qnm ((a3F ls).length);have o:∀x∈ls.map Rc.bytes,x.length<=1000:=fun x hx=>by
    obtain⟨r,hr,rfl⟩:=AX.1 hx;obtain⟨h1,h2⟩:=HR.out.ys_len r hr |> fun h=>aI h (G.out r hr)
    unfold Rc.bytes;have:=h2.2.1;rw[a2b _ _ _ (by omega)];omega
   have a9:=qh (a7v a k cap ls wr (HR.out.below F.1) aN G.out);have aD:=qh (HP.out.below F.1);have z:=qh F;have aM:=qh o;have aP:Q<=942:=by omega
   obtain⟨Z,hZ⟩:=qnm (942 - Q);have e9:IntKind.i64.wrap (942 - (Q:Int))=(Z:Int):=by rw[Ak _ (by omega)];omega
   have aV:∀W,(Instr.makeSlice 30 (.int .i64 (Z:Int)) (.int .i64 (Z:Int))).run Tryz.prog W= .ok (.slice (some ⟨W.heap.size,0,none⟩) Z Z) (W.alloc (.cells (madeCells #[.int .u8 0] Z) TB)):=fun W=>a1W Z (by omega) W
   have HZ:=qh (aI aC (aI hZ b));clear F o b g aC hZ HR G HP HL;go_wp2_with fail;refine a9.out.mono ?_;rintro e w2 ⟨v2,rfl,ad,hb2⟩;obtain⟨la,lc,rfl,I⟩:=ad.ll (n:=k) (by rw[AC];exact HZ.out.2.2);have aE:=qh (z.out.step hb2);have aK:=qh (aD.out.below hb2);have y:=qh I;clear ad I hb2 z aD a9;go_wp2_with fail;refine(a4e k lc la _ w2 y.out (by omega) (by have:=HZ.out.1;unfold a3F at this;omega)).mono ?_;rintro e E ⟨v3,rfl,aH,hb3⟩;obtain⟨aa,ac,rfl,a8⟩:=aH.bsn (n:=Q) HZ.out.1.symm;have aA:=qh (aE.out.step hb3);have ap:=qh (aK.out.below hb3);have aw:=qh (y.out.below hb3);have aL:=qh (show Bs E aa Q ac (a3F ls) from a8);clear aH hb3 a8 aE aK y;go_wp2_with fail;refine(a2k E).mono ?_;rintro e w4 ⟨rfl,ay,hb4⟩;obtain⟨q,hq⟩:=qnm E.heap.size;have a1:WI E E.heap.size E.heap.size w4 []:=⟨(Ext.refl E).step hb4,none,ay⟩
   have HQ:=qh hq;rw[<-hq] at a1⊢;clear ay hb4 hq;go_wp2_with fail;refine(a0H i a1 (by omega) (by unfold big;decide)).mono ?_;rintro e w5 ⟨rfl,aq⟩;clear a1;go_wp2_with fail;refine(a18 f aq (by simp[a0d];unfold big;decide)).mono ?_;rintro e w6 ⟨rfl,a7⟩;clear aq;go_wp2_with fail;refine(a0H k a7 (by omega) (by simp[a0d];unfold big;decide)).mono ?_;rintro e w7 ⟨rfl,aj⟩;clear a7;go_wp2_with fail;refine(a0H Q aj (by omega) (by simp[a0d];unfold big;decide)).mono ?_;rintro e w8 ⟨rfl,T⟩;clear aj;go_wp2_with fail;refine(a1E T (T.1.bs HQ.out.symm ap.out) (by simp[a0d];unfold big;decide)).mono ?_;rintro e w9 ⟨rfl,S⟩;clear T;have au:Below E.heap.size E w9:=by rw[<-HQ.out];exact S.1.1
   have am:=qh (b0W k la lc (ls.map Rc.bytes) w9 (aw.out.below au) aM.out (by omega));clear au;go_wp2_with fail;refine am.out.mono ?_;rintro e aR ⟨vr,rfl,az,ao⟩;obtain⟨ra,rc,rfl,an⟩:=az.bsn (n:=32) (a1H _);have O:=S.below ao;have X:=ap.out.1;clear az ao S am;go_wp2_with fail;refine(a1E O an (by simp[a0d,X];unfold big;decide)).mono ?_;rintro e aX ⟨rfl,D⟩;clear O an;obtain⟨l,c⟩:=qnm ((((((([]:List UInt8) ++be i 2) ++be f 8) ++be k 2) ++be Q 2) ++P) ++a2P (ls.map Rc.bytes));rw[<-c] at D;have hN:l.length=78:=by rw[c];simp[a0d,X,a1H]
   have ai:=qh c;have HN:=qh hN;clear c X;go_wp2_with fail;refine(a10 D (by rw[hN];unfold big;decide)).mono ?_;rintro e ag ⟨da,dc,rfl,_,a2,J⟩;rw[hN] at a2⊢;clear D hN;go_wp2_with fail;refine(a4j da 78 dc l ag a2).mono ?_;rintro e aU ⟨rfl,rfl⟩;obtain⟨C,hC⟩:=qnm (crcMore 0 l);have V:=a2j 0 l;rw[<-hC] at V⊢;have HC:=qh hC;clear hC a2;go_wp2_with fail;refine(a8i C ag V).mono ?_;rintro e aT ⟨vf,rfl,ae,av⟩;obtain⟨fa,fc,rfl,ab⟩:=ae.bsn (n:=4) (a0d _ _);have N:=J.below av;clear ae av J V;go_wp2_with fail;refine(a1E N ab (by rw[HN.out];unfold big;decide)).mono ?_;rintro e aQ ⟨rfl,t⟩;clear N ab;go_wp2_with fail;refine(a1E t (t.1.bs HQ.out.symm aL.out) (by rw[Af,HN.out,a0d];unfold big;omega)).mono ?_;rintro e U ⟨rfl,L⟩;clear t;have al:Bs (U.alloc (.cells (madeCells #[.int .u8 0] Z) TB)) (some ⟨U.heap.size,0,none⟩) Z Z (List.replicate Z 0):=by
    have:=(Row.zero U Z (by unfold maxLen;have:=HZ.out.2.1;omega)).bs
    rwa [Ba] at this
   have aG:=qh al;have K:=qh (L.below ((Ab _ _).alloc (Aa _) (.cells (madeCells #[.int .u8 0] Z) TB)));clear al L;go_wp2_with fail;refine(a1E K.out aG.out (by have:=HZ.out;simp only[Af,HN.out,a0d];unfold big;omega)).mono ?_;rintro e aZ ⟨rfl,M⟩;clear K aG;go_wp2_with fail;refine(a10 M (by have:=HZ.out;simp only[Af,HN.out,a0d,Ba];unfold big;omega)).mono ?_;rintro e w19 ⟨za,zc,rfl,ho,_,aF⟩;obtain⟨NN,af⟩:=qnm ((((l ++be C 4) ++a3F ls) ++List.replicate Z 0).length);rw[<-af] at ho⊢;clear af;go_wp2_with fail;go_ret2;have ax:Ext w.heap.size w w19:=aA.out.step (by rw[<-HQ.out];exact aF.1.1);refine⟨_,rfl,?_,ax.1⟩;have hw:=ho.weaken (B:=w.heap.size) (Ad aA.out.2 (by rw[<-HQ.out];exact M.1.2));have ah:((l ++be C 4) ++a3F ls) ++List.replicate Z 0=segBytes i f P ls:=by
    obtain⟨h1,h2,h3⟩:=HZ.out;have hl:=ai.out;simp only[AJ,List.append_assoc] at hl;unfold segBytes a2g;rw[<-h1,<-h2,h3,<-hl,<-HC.out];simp only[List.append_assoc]
   rw[<-ah];exact hw
end
end Go.Proofs.YtbemfdcjieakdaaGreatDoor
