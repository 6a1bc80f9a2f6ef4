/- Lay. -/
import Derived.Test.YtbemfdcjieakdaaGreatDoorK21
set_option maxRecDepth 100000
set_option maxHeartbeats 8000000
namespace Go.Proofs.YtbemfdcjieakdaaGreatDoor
section
open Go.RowKit Go.Shelf
attribute [local go_sem] Oper.semAt_some
def b2a(M:Nat->Option (List UInt8))(first:Nat)(xs:List UInt8)(pre:List Nat)(i:Nat):Option (List UInt8):=
 if first<=i/\i<first+pre.length then some (chk xs (pre.getD (i - first) 0)) else M i
def layM(M:Nat->Option (List UInt8))(first:Nat)(xs:List UInt8)(m i:Nat):Option (List UInt8):=
 if first<=i/\i<first+m then some (chk xs (i - first)) else M i
theorem b1a(M:Nat->Option (List UInt8))(first:Nat)(xs:List UInt8):b2a M first xs []=M:=by
 funext i;unfold b2a;rw[Ag (by simp)]
theorem b33(M:Nat->Option (List UInt8))(first:Nat)(xs:List UInt8)(pre:List Nat)(k:Nat):b5e (b2a M first xs pre) (first+pre.length) (chk xs k)=b2a M first xs (pre ++[k]):=by
 funext i;unfold b5e b2a;rw[Af,A9];by_cases h:i=first+pre.length
 ·subst h;rw[Ah rfl,Ah (by omega),show first+pre.length - first=pre.length by omega];simp
 ·rw[Ag h];by_cases a:first<=i/\i<first+pre.length
  ·rw[Ah a,Ah (by omega)];rw[List.getD_eq_getElem?_getD,List.getD_eq_getElem?_getD,A7 (by omega)]
  ·rw[Ag a,Ag (by omega)]
theorem a7w(M:Nat->Option (List UInt8))(first:Nat)(xs:List UInt8)(m:Nat):b2a M first xs (List.range m)=layM M first xs m:=by
 funext i;unfold b2a layM;rw[List.length_range];by_cases h:first<=i/\i<first+m
 ·rw[Ah h,Ah h,List.getD_eq_getElem?_getD,List.getElem?_range (by omega)];rfl
 ·rw[Ag h,Ag h]
theorem Dk.keptc{w w':World}{row:Option Nat}{d sb mb n:Nat}{S:List UInt8}{M:Nat->Option (List UInt8)}(h:Dk w d sb mb n S M)(j:w.grownBy w' row)(y:row≠some mb)(k:∀r,row=some r->∃o:Obj,w.heap[r]? =some o/\o.isCells=false):Dk w' d sb mb n S M:=by
 have b:=h.lt;obtain⟨t,F,h3,⟨cap,wr,m,p⟩,L,D,q,x⟩:=h;have H:some d≠row:=fun e=>by obtain⟨o,g,l⟩:=k d e.symm;rw[m] at g;cases g;cases l
 have E:some sb≠row:=fun e=>by
  obtain⟨o,g,l⟩:=k sb e.symm;obtain⟨s,f,_⟩:=p;rw[f] at g;cases g;cases l
 refine⟨t,F,h3,⟨cap,wr,(j.block d b.1 H).trans m,p.of_heap (j.block sb b.2.1 E)⟩,L,D.same numS (j.block mb b.2.2 (fun e=>y e.symm)),q,fun i v u=>?_⟩;obtain⟨z,a,c,C,e,A,G,B⟩:=x i v u;exact⟨z,a,c,C,e,A.keptc j k,G,B⟩
theorem Dk.box{w:World}{H d sb mb n:Nat}{T:TypeId}{u:Int}{S:List UInt8}{M:Nat->Option (List UInt8)}(h:Dk w d sb mb n S M)(J:Boxed w H T (.int .i64 u))(p:H≠d)(D:H≠sb)(h3:H≠mb)(y:Value):Dk (w.setCell ⟨H,0,none⟩ y) d sb mb n S M:=by
 have f:∀k,k≠H->(w.setCell ⟨H,0,none⟩ y).heap[k]? =w.heap[k]?:=fun k hk=>A5 _ _ _ _ hk
 obtain⟨G,x,I,⟨cap,wr,A,E⟩,L,C,o,r⟩:=h;refine⟨G,x,I,⟨cap,wr,(f d p.symm).trans A,E.of_heap (f sb D.symm)⟩,L,C.same numS (f mb h3.symm),o,fun i v q=>?_⟩;obtain⟨s,a,c,B,e,l,F,z⟩:=r i v q;refine⟨s,a,c,B,e,l.grown (grownBy_setCell' w H y) (fun N K g e=>?_),F,z⟩;injection e with e
 subst e;obtain⟨R,O,P,j⟩:=l;rcases j with j | ⟨b,off,rfl,Q,t⟩
 ·omega
 ·injection g with g;subst g
  have:=t 0 (by omega);simp only[World.cell?,show w.heap[b]? =_ from J] at this;by_cases m:off=0
  ·subst m;simp at this
  ·simp[m] at this
theorem a9e{w W w2:World}{H f a Hs Hn d sb mb n:Nat}{S:List UInt8}{M:Nat->Option (List UInt8)}{first:Nat}{xs:List UInt8}{g:Nat}{pre:List (CI g)}{x:CI g}{B:Nat}
  (E:d<H/\sb<H/\mb<H) (A:H<=f/\f<B/\H<=a/\a<B/\H<=Hs/\Hs<B/\H<=Hn/\Hn<B) (j:f≠a/\Hs≠a/\Hn≠a) (y:w.heap.size<=H) (D:Boxed W f 23 (.pointer (some ⟨d,0,none⟩))) (hv:Boxed W a 3 (.int .i64 ((first+pre.length:Nat):Int)))
  (C:Chg (fun k=>k=d∨k=mb) w W) (h3:B<=W.heap.size) (l:Nat) (r:l=first+(pre ++[x]).length)
  (q:Dk w2 d sb mb n S (b5e (b2a M first xs (pre.map (·.1))) (first+pre.length) (chk xs x.1))) (e:Chg (fun k=>k=d∨k=mb) W w2):
  Boxed w2 a 3 (.int .i64 ((first+pre.length:Nat):Int))/\
  ∀u:Act,ownPostG B (fun W W'=>W'.heap[Hs]? =W.heap[Hs]?/\W'.heap[Hn]? =W.heap[Hn]?)
   (fun(pre:List (CI g)) W=>(Boxed W f 23 (.pointer (some ⟨d,0,none⟩))/\Boxed W a 3 (.int .i64 ((first+pre.length:Nat):Int)))/\Dk W d sb mb n S (b2a M first xs (pre.map (·.1)))/\Chg (fun k=>k=d∨k=mb) w W/\B<=W.heap.size)
   (fun _ _ _=>False) (pre ++[x]) W .normal u (w2.setCell ⟨a,0,none⟩ (.int .i64 (l:Int))):=by
 have c:∀k,H<=k->k<W.heap.size->w2.heap[k]? =W.heap[k]?:=fun k hk t=>e.block k t (by omega)
 have i:Boxed w2 a 3 (.int .i64 ((first+pre.length:Nat):Int)):=(c a (by omega) (by omega)).trans hv;have m:Boxed w2 f 23 (.pointer (some ⟨d,0,none⟩)):=(c f (by omega) (by omega)).trans D;have z:=e.size;have v:(w2.setCell ⟨a,0,none⟩ (.int .i64 (l:Int))).heap.size=w2.heap.size:=by simp[World.setCell]
 have b:∀k,k≠a->(w2.setCell ⟨a,0,none⟩ (.int .i64 (l:Int))).heap[k]? =w2.heap[k]?:=fun k hk=>A5 _ _ _ _ hk
 refine⟨i,fun _=>⟨⟨by omega,fun k o hk s _=>?_⟩,⟨(b _ j.2.1).trans (c _ (by omega) (by omega)),(b _ j.2.2).trans (c _ (by omega) (by omega))⟩,⟨(b _ j.1).trans m,?_⟩,?_,?_,by omega⟩⟩
 ·exact(b k (by omega)).trans ((c k (by omega) (Array.getElem?_eq_some_iff.1 s).1).trans s)
 ·rw[<-r];exact i.set _
 ·rw[AZ,Au,Bf,<-b33,AC];exact Dk.box q i (by omega) (by omega) (by omega) _
 ·exact(C.trans e (fun _ _ h=>h)).setCell (p:=⟨a,0,none⟩) (fun h=>by have:a<w.heap.size:=h;omega) _
theorem b0u{w:World}{d sb mb n:Nat}{S:List UInt8}{M:Nat->Option (List UInt8)}(h:Dk w d sb mb n S M)(first m:Nat)(a:Option Addr)(cap:Nat)(xs:List UInt8)(hX:Bs w a (128 * m) cap xs)(hf:first+m<=n)
  (a3:∀O,a=some O->O.block≠d/\O.block≠mb):
  Calls Tryz.prog 58 #[.pointer (some ⟨d,0,none⟩),.int .i64 (first:Int),.slice a (128 * m) cap] w fun e w'=>e= .returned (.tuple #[])/\Dk w' d sb mb n S (layM M first xs m)/\Chg (fun k=>k=d∨k=mb) w w':=by
 have q:n<=4096:=h.2.2.1;have P:=h.lt;obtain⟨f,g⟩:=qnm (128 * m);rw[<-g] at hX⊢;have Q:=qh g;have HF:=qh (aI hf (aI q g));have V:f<=1000000:=by omega
 clear g hf q;refine(Bd (n:=3)).1 ?_;refine callsIn_of_wp_marks Tryz.func58 rfl trivial ?_ rfl;simp only[Tryz.ntmps58,Co,AA,Ay,Nat.reduceAdd,Nat.reduceSub,B7,B6,Cp,Cf,AJ,Be]
 gi_wp2_with (refine⟨trivial,?_⟩;gi_at_call 119;refine(b1r Fence.wide _ trivial rfl a f cap _).mono ?_;rintro e w' ⟨rfl,rfl⟩)
 have bD:=Boxed.new w 23 (.pointer (some ⟨d,0,none⟩));have bF:=Boxed.new (w.alloc (.cells #[.pointer (some ⟨d,0,none⟩)] 23)) 3 (.int .i64 (first:Int));have bS:=Boxed.new ((w.alloc (.cells #[.pointer (some ⟨d,0,none⟩)] 23)).alloc (.cells #[.int .i64 (first:Int)] 3)) 30 (.slice a f cap);have bN:=Boxed.new (((w.alloc (.cells #[.pointer (some ⟨d,0,none⟩)] 23)).alloc (.cells #[.int .i64 (first:Int)] 3)).alloc (.cells #[.slice a f cap] 30)) 3 (.int .i64 128);simp only[AR] at bF bS bN;have F:=((bD.alloc (.cells #[.int .i64 (first:Int)] 3)).alloc (.cells #[.slice a f cap] 30)).alloc (.cells #[.int .i64 128] 3);have v:=(bF.alloc (.cells #[.slice a f cap] 30)).alloc (.cells #[.int .i64 128] 3);have C:=bS.alloc (.cells #[.int .i64 128] 3);have p:Below w.heap.size w ((((w.alloc (.cells #[.pointer (some ⟨d,0,none⟩)] 23)).alloc (.cells #[.int .i64 (first:Int)] 3)).alloc (.cells #[.slice a f cap] 30)).alloc (.cells #[.int .i64 128] 3)):=((((Ab _ w).alloc (Aa _) _).alloc (by simp) _).alloc (by simp;omega) _).alloc (by simp;omega) _;have J:0<f->∃b o,a=some ⟨b,o,none⟩:=fun h0=>by
  rcases hX.2.2.2 with N | ⟨b,o,N,_⟩
  ·omega
  ·exact⟨b,o,N⟩
 obtain⟨w3,z⟩:=qnm (((((w.alloc (.cells #[.pointer (some ⟨d,0,none⟩)] 23)).alloc (.cells #[.int .i64 (first:Int)] 3)).alloc (.cells #[.slice a f cap] 30)).alloc (.cells #[.int .i64 128] 3)));have a5:w3.heap.size=w.heap.size+4:=by rw[z];simp
 rw[<-z] at F v C bN p⊢;clear z bD bF bS;obtain⟨H,L⟩:=qnm w.heap.size;rw[<-L] at F v C bN p a5 P⊢;have HH:=qh L;have a8:Dk w3 d sb mb n S M:=h.below (by rw[<-L];exact p);have a4:Chg (fun k=>k=d∨k=mb) w w3:=Chg.of_below (by rw[<-L];exact p) _;clear L;refine wpIn_rangeFunc_ownG rfl (by omega) (gf:=201) (lb:=#[.pointer (some ⟨H+1+1,0,none⟩),.pointer (some ⟨H+1+1+1,0,none⟩)]) rfl trivial (enters_of Tryz.func201 (by kernel_rfl) rfl)
  (a6J Fence.wide _ trivial rfl (by omega) (H+1+1) (H+1+1+1) a f cap hX.2.1 V J w3 C bN)
  (fun N h2=>⟨h2.1.trans N.1,h2.2.trans N.2⟩)
  (fun W l o o' V ab _ _=>⟨World.putObj_heap_other (by omega),World.putObj_heap_other (by omega)⟩)
  (Ab _ _) (fun _=>rfl)
  (fun pre W=>(Boxed W H 23 (.pointer (some ⟨d,0,none⟩))/\Boxed W (H+1) 3 (.int .i64 ((first+pre.length:Nat):Int)))/\Dk W d sb mb n S (b2a M first xs (pre.map (·.1)))/\Chg (fun k=>k=d∨k=mb) w W/\w3.heap.size<=W.heap.size)
  (fun _ _ _=>False)
  ?own
  (fun _ _ _ _ _ hs _ _=>hs)
  ⟨⟨F,v⟩,by rw[Bf,b1a];exact a8,a4,Aa _⟩
  (fun x=> { tmps:=#[.pointer (some ⟨d,0,none⟩),.int .i64 (first:Int),.slice a f cap,.pointer (some ⟨H,0,none⟩),.pointer (some ⟨H+1,0,none⟩),undef,ckV a f x.1,.slice a f cap,.func (.func 201) #[] #[.pointer (some ⟨H+1+1,0,none⟩),.pointer (some ⟨H+1+1+1,0,none⟩)],ckV a f x.1,undef,undef,undef,undef,undef,undef],defers:=[] }) ?assign ?body ?done ?stop
 case own=>
  rintro s A B row ⟨⟨X,hv⟩,hD,G,h3⟩ t Y;have a2:row≠some H:=fun e=>by have:=(Y H e).1;omega
  have a7:row≠some (H+1):=fun e=>by have:=(Y (H+1) e).1;omega
  refine⟨⟨X.kept t a2.symm,hv.kept t a7.symm⟩,hD.keptc t (fun e=>by have:=(Y mb e).1;omega) (fun r e=>(Y r e).2),G.grown t (fun k hk e=>?_),Ad h3 t.size⟩;have:=(Y k e).1;have:=HH.out;omega
 case assign=>
  intro l x W K hK
  gi_wp2
  exact hK
 case body=>
  rintro l pre x W ⟨⟨X,hv⟩,hD,G,h3⟩ hl;have ac:Tryz.prog.follows .mixedOrders=true:=by kernel_rfl
  obtain⟨hf,q,g⟩:=HF.out;have E:a7r f=m:=by unfold a7r;omega
  have a0:=x.2;have T:=((G.bs hX (fun O a6=>by have:=a3 O a6;omega)).chunk x.1 128 x.2 (by omega))
  obtain⟨k1,R⟩:=qnm (first+pre.length);obtain⟨k2,a9⟩:=qnm (k1+1);have y:=HH.out;have HR:=qh (fun(w2:World) (j:Dk w2 d sb mb n S (b5e (b2a M first xs (pre.map (·.1))) (first+pre.length) (chk xs x.1))) (i:Chg (fun k=>k=d∨k=mb) W w2)=>
   a9e (B:=w3.heap.size) (Hs:=H+1+1) (Hn:=H+1+1+1) (x:=x) (pre:=pre) P (by omega) (by omega) (by omega) X hv G h3 k2 (by rw[Af,A9];omega) j i)
  have HW:=qh (a7D hD (first+pre.length) (by omega) _ 128 (chk xs x.1) T);have e1:IntKind.i64.wrap ((k1:Int)+1)=(k2:Int):=by rw[Ak _ (by omega)];omega
  rw[<-R] at hv HW HR;have u:min 128 (f - 128 * x.1)=128:=by omega
  dsimp only[ckV];rw[u];generalize a.map (·.add (128 * x.1))=ax at *;have aa:=X.cell;have af:=hv.cell;clear y T R a9 hf q g E a0 u
  gi_wp2_with (refine⟨trivial,?_⟩;refine(CallsIn.inRound l (Bd.2 HW.out)).mono ?_;rintro e w2 ⟨rfl,j,i⟩;obtain⟨U,Z⟩:=HR.out w2 j i;have ae:=U.cell;have ag:=U.frozen;clear j i)
  exact Z { tmps:=#[],defers:=[] }
 case done=>
  rintro D ys W hD a1 ⟨⟨X,hv⟩,I,G,h3⟩ hK;have g:=Q.out;have E:a7r f=m:=by unfold a7r;omega
  rw[a1,E,a7w] at I;have y:=HH.out;have t:=grownBy_putObj' W D (.deferred none);have j:=I.keptc t (fun e=>by injection e with e;omega) (fun r e=>by cases e;exact⟨_,hK,rfl⟩);have i:=G.grown t (fun k hk e=>by injection e with e;omega);clear y;show LeavesInM _ _ _ _ _ _ _ _ _;refine⟨by simp,.inl ⟨_,_,rfl,run_takeDeferred hK,?_⟩⟩;refine⟨_,CF rfl _ _ _,?_⟩;exact⟨rfl,j,i⟩
 case stop=>
  rintro D c pre W _ _ h _;exact h.elim
theorem b18{w:World}{d sb mb n:Nat}{S:List UInt8}{M:Nat->Option (List UInt8)}(h:Dk w d sb mb n S M)(s p g:Int)(hp:isPlan s p g)(i first:Nat)(hi:(i:Int)<g)(a6:(first:Int)=1+2 * p+i * 8)(m:Nat)(a:Option Addr)(cap:Nat)(xs:List UInt8)(hX:Bs w a (128 * m) cap xs)(hf:first+m<=n)
  (ac:∀U,a=some U->U.block≠d/\U.block≠mb):
  Calls Tryz.prog 104 #[.pointer (some ⟨d,0,none⟩),.agg #[.int .i64 s,.int .i64 p,.int .i64 g],.int .i64 (i:Int),.slice a (128 * m) cap] w fun e w'=>e= .returned (.tuple #[])/\(∃S',Dk w' d sb mb n S' (fun _=>none)/\∀j,j<n->secOf S' j=sect S (layM M first xs m) j)/\Chg (fun k=>k=d∨k=sb∨k=mb) w w':=by
 have C:n<=4096:=h.2.2.1;have a1:=h.lt;obtain⟨f,q⟩:=qnm (128 * m);rw[<-q] at hX⊢;have a9:=qh q;have HF:=qh (aI hf (aI C q));have a7:f<=1000000:=by omega
 have HS:=qh (fun w=>a7b s p g (i:Int) w hp (by omega) hi);rw[<-a6] at HS;clear q hf C a6 hi;refine(Bd (n:=3)).1 ?_;refine callsIn_of_wp_marks Tryz.func104 rfl trivial ?_ rfl;simp only[Tryz.ntmps104,Co,AA,Ay,Nat.reduceAdd,Nat.reduceSub,B7,B6,Cp,Cf,AJ,Be]
 gi_wp2_with fail
 refine⟨trivial,?_⟩;refine(Bd.2 (HS.out _)).mono ?_;rintro e w1 ⟨rfl,hb1⟩
 gi_wp2_with (refine⟨trivial,?_⟩;gi_at_call 119;refine(b1r Fence.wide _ trivial rfl a f cap _).mono ?_;rintro e w' ⟨rfl,rfl⟩)
 have V:=(Boxed.new w 23 (.pointer (some ⟨d,0,none⟩))).alloc (.cells #[.int .i64 s,.int .i64 p,.int .i64 g] 47);have a4:((w.alloc (.cells #[.pointer (some ⟨d,0,none⟩)] 23)).alloc (.cells #[.int .i64 s,.int .i64 p,.int .i64 g] 47)).heap.size=w.heap.size+2:=by simp
 have Y:Below w.heap.size w w1:=(((Ab _ w).alloc (Aa _) _).alloc (by simp) _).trans (hb1.mono (by omega));have bD:=(hb1.block w.heap.size (by omega)).trans V;have a0:w.heap.size+2<=w1.heap.size:=by have:=hb1.size;omega
 clear hb1 V a4;have bF:=Boxed.new w1 3 (.int .i64 (first:Int));have bS:=Boxed.new (w1.alloc (.cells #[.int .i64 (first:Int)] 3)) 30 (.slice a f cap);have bN:=Boxed.new ((w1.alloc (.cells #[.int .i64 (first:Int)] 3)).alloc (.cells #[.slice a f cap] 30)) 3 (.int .i64 128);simp only[AR] at bS bN;have P:=((Boxed.alloc bD (.cells #[.int .i64 (first:Int)] 3)).alloc (.cells #[.slice a f cap] 30)).alloc (.cells #[.int .i64 128] 3);have O:=(bF.alloc (.cells #[.slice a f cap] 30)).alloc (.cells #[.int .i64 128] 3);have J:=bS.alloc (.cells #[.int .i64 128] 3);have y:Below w.heap.size w (((w1.alloc (.cells #[.int .i64 (first:Int)] 3)).alloc (.cells #[.slice a f cap] 30)).alloc (.cells #[.int .i64 128] 3)):=((Y.alloc (by omega) _).alloc (by simp;omega) _).alloc (by simp;omega) _;have R:0<f->∃b o,a=some ⟨b,o,none⟩:=fun h0=>by
  rcases hX.2.2.2 with T | ⟨b,o,T,_⟩
  ·omega
  ·exact⟨b,o,T⟩
 obtain⟨w3,N⟩:=qnm ((((w1.alloc (.cells #[.int .i64 (first:Int)] 3)).alloc (.cells #[.slice a f cap] 30)).alloc (.cells #[.int .i64 128] 3)));have ag:w3.heap.size=w1.heap.size+3:=by rw[N];simp
 rw[<-N] at P O J bN y⊢;clear N bD bF bS;obtain⟨G,hG⟩:=qnm w1.heap.size;rw[<-hG] at O J bN ag a0⊢;clear hG Y;obtain⟨H,hH⟩:=qnm w.heap.size;rw[<-hH] at P y a0 a1⊢;have HH:=qh hH;have al:Dk w3 d sb mb n S M:=h.below (by rw[<-hH];exact y);have ae:Chg (fun k=>k=d∨k=mb) w w3:=Chg.of_below (by rw[<-hH];exact y) _;clear hH;refine wpIn_rangeFunc_ownG rfl (by omega) (gf:=201) (lb:=#[.pointer (some ⟨G+1,0,none⟩),.pointer (some ⟨G+1+1,0,none⟩)]) rfl trivial (enters_of Tryz.func201 (by kernel_rfl) rfl)
  (a6J Fence.wide _ trivial rfl (by omega) (G+1) (G+1+1) a f cap hX.2.1 a7 R w3 J bN)
  (fun T h2=>⟨h2.1.trans T.1,h2.2.trans T.2⟩)
  (fun W l o o' a7 ar _ _=>⟨World.putObj_heap_other (by omega),World.putObj_heap_other (by omega)⟩)
  (Ab _ _) (fun _=>rfl)
  (fun pre W=>(Boxed W H 23 (.pointer (some ⟨d,0,none⟩))/\Boxed W G 3 (.int .i64 ((first+pre.length:Nat):Int)))/\Dk W d sb mb n S (b2a M first xs (pre.map (·.1)))/\Chg (fun k=>k=d∨k=mb) w W/\w3.heap.size<=W.heap.size)
  (fun _ _ _=>False)
  ?own
  (fun _ _ _ _ _ hs _ _=>hs)
  ⟨⟨P,O⟩,by rw[Bf,b1a];exact al,ae,Aa _⟩
  (fun x=> { tmps:=#[.pointer (some ⟨d,0,none⟩),.agg #[.int .i64 s,.int .i64 p,.int .i64 g],.int .i64 (i:Int),.slice a f cap,.pointer (some ⟨H,0,none⟩),.pointer (some ⟨H+1,0,none⟩),undef,undef,.pointer (some ⟨G,0,none⟩),.int .i64 0,ckV a f x.1,.tuple #[.int .i64 (first:Int),.int .i64 0],.agg #[.int .i64 s,.int .i64 p,.int .i64 g],.int .i64 (i:Int),.tuple #[.int .i64 (first:Int),.int .i64 0],.int .i64 (first:Int),.int .i64 0,.slice a f cap,.func (.func 201) #[] #[.pointer (some ⟨G+1,0,none⟩),.pointer (some ⟨G+1+1,0,none⟩)],ckV a f x.1,undef,undef,undef,undef,undef,undef,undef,undef],defers:=[] }) ?assign ?body ?done ?stop
 case own=>
  rintro s A B row ⟨⟨Q,hv⟩,hD,u,h3⟩ E hr;have aj:row≠some H:=fun e=>by have:=(hr H e).1;omega
  have ap:row≠some G:=fun e=>by have:=(hr G e).1;omega
  refine⟨⟨Q.kept E aj.symm,hv.kept E ap.symm⟩,hD.keptc E (fun e=>by have:=(hr mb e).1;omega) (fun r e=>(hr r e).2),u.grown E (fun k hk e=>?_),Ad h3 E.size⟩;have:=(hr k e).1;have:=HH.out;omega
 case assign=>
  intro l x W K hK
  gi_wp2
  exact hK
 case body=>
  rintro l pre x W ⟨⟨Q,hv⟩,hD,u,h3⟩ hl;have ay:Tryz.prog.follows .mixedOrders=true:=by kernel_rfl
  obtain⟨hf,C,q⟩:=HF.out;have L:a7r f=m:=by unfold a7r;omega
  have ai:=x.2;have a2:=((u.bs hX (fun U am=>by have:=ac U am;omega)).chunk x.1 128 x.2 (by omega))
  obtain⟨k1,a5⟩:=qnm (first+pre.length);obtain⟨k2,aq⟩:=qnm (k1+1);have I:=HH.out;have HR:=qh (fun(w2:World) (t:Dk w2 d sb mb n S (b5e (b2a M first xs (pre.map (·.1))) (first+pre.length) (chk xs x.1))) (v:Chg (fun k=>k=d∨k=mb) W w2)=>
   a9e (B:=w3.heap.size) (Hs:=G+1) (Hn:=G+1+1) (x:=x) (pre:=pre) a1 (by omega) (by omega) (by omega) Q hv u h3 k2 (by rw[Af,A9];omega) t v)
  have HW:=qh (a7D hD (first+pre.length) (by omega) _ 128 (chk xs x.1) a2);have e1:IntKind.i64.wrap ((k1:Int)+1)=(k2:Int):=by rw[Ak _ (by omega)];omega
  rw[<-a5] at hv HW HR;have F:min 128 (f - 128 * x.1)=128:=by omega
  dsimp only[ckV];rw[F];generalize a.map (·.add (128 * x.1))=ax at *;have an:=Q.cell;have au:=hv.cell;clear I a2 a5 aq hf C q L ai F
  gi_wp2_with (refine⟨trivial,?_⟩;refine(CallsIn.inRound l (Bd.2 HW.out)).mono ?_;rintro e w2 ⟨rfl,t,v⟩;obtain⟨a3,Z⟩:=HR.out w2 t v;have av:=a3.cell;have aw:=a3.frozen;clear t v)
  exact Z { tmps:=#[],defers:=[] }
 case done=>
  rintro D ys W hD ab ⟨⟨Q,hv⟩,z,u,h3⟩ hK;have q:=a9.out;have L:a7r f=m:=by unfold a7r;omega
  rw[ab,L,a7w] at z;have an:=Q.cell;have aa:=qh (a6z z);have HC:=qh (aI u z);clear z u
  gi_wp2_with (refine⟨trivial,?_⟩;refine(Bd.2 aa.out).mono ?_;rintro e w4 ⟨rfl,⟨S',ah,af⟩,X⟩)
  have I:=HH.out;obtain⟨u,_⟩:=HC.out;have a8:w4.heap[D]? =some (.deferred (some [])):=(X.block D (Array.getElem?_eq_some_iff.1 hK).1 (by omega)).trans hK;have E:=grownBy_putObj' w4 D (.deferred none);have ak:=ah.keptc E (fun e=>by injection e with e;omega) (fun r e=>by cases e;exact⟨_,a8,rfl⟩);have ao:Chg (fun k=>k=d∨k=sb∨k=mb) w (w4.putObj D (.deferred none)):=((u.mono (fun _ _ h=>by omega)).trans X (fun _ _ h=>by omega)).grown E (fun k hk e=>by injection e with e;omega);clear I;show LeavesInM _ _ _ _ _ _ _ _ _;refine⟨by simp,.inl ⟨_,_,rfl,run_takeDeferred a8,?_⟩⟩;refine⟨_,CF rfl _ _ _,?_⟩;exact⟨rfl,⟨S',ak,af⟩,ao⟩
 case stop=>
  rintro D c pre W _ _ h _;exact h.elim
end
end Go.Proofs.YtbemfdcjieakdaaGreatDoor
