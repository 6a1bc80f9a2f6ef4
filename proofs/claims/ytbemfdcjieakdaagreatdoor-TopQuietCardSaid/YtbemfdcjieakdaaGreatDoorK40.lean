/- StDoG. -/
import Derived.Test.YtbemfdcjieakdaaGreatDoorK28
import Derived.Test.YtbemfdcjieakdaaGreatDoorK39
set_option maxRecDepth 100000
set_option maxHeartbeats 8000000
namespace Go.Proofs.YtbemfdcjieakdaaGreatDoor
section
open Go.RowKit Go.ChangeMaps Go.MapKept
variable {w w' : World} {L B C s t sn c : Nat} {fp : Nat → Option Nat} {σ : StM}
theorem a2o{p q:List (List UInt8)}{x:List UInt8}(h:a0g x=(q,0))(a:p=[x]):a0y p=([q],0):=by
 rw[a,a7k,h];rfl
theorem a82{p x:List UInt8}{q a:List (List UInt8)}(h:a0g p=(q,0))(b:a0g x=(a,0)){l:List (List UInt8)}(c:l=[p,x]):a0y l=([q,a],0):=by
 rw[c];simp[a0y,h,b]
theorem OwnP.two{v:Value}{p q:List (List UInt8)}(h:OwnP w B v [p,q]):
  ∃g cap a n c d e f,v= .slice (some ⟨g,0,none⟩) 2 cap/\w.cell? ⟨g,0,none⟩=some (.slice a n c)/\w.cell? ⟨g,1,none⟩=some (.slice d e f)/\Ss w a n c p/\Ss w d e f q:=by
 obtain⟨s,j,i⟩:=h;obtain⟨a,n,c,h3,l,_⟩:=i 0 (by simp);obtain⟨d,e,f,o,k,_⟩:=i 1 (by simp);have b:=j;rcases j.2 with⟨_,m⟩ | ⟨g,cap,r,rfl,_,t,_,_,x,u⟩
 ·simp at m
 ·refine⟨g,cap,a,n,c,d,e,f,rfl,?_,?_,l,k⟩
  ·rw[A1 (size:=1) b 0 (by simp)];exact h3
  ·rw[A1 (size:=1) b 1 (by simp)];exact o
theorem OwnP.none{v:Value}(h:OwnP w B v []):∃c cap,v= .slice c 0 cap:=by
 obtain⟨d,a,_⟩:=h;rcases a.2 with⟨a,_⟩ | ⟨g,cap,b,a,_⟩
 ·exact⟨_,_,a⟩
 ·exact⟨_,_,a⟩
theorem b4r(K:Int)(h:StIn w L B C s t sn fp σ)(l:C<=B)(o:B<=w.heap.size)(ps k:ByteArray)(fd e n:Int)(til:Nat)(g:Int)(i:Option Addr)(m j:Nat):
  ∃d w0 N M,Hid (w0=d.alloc (.cells rpZ TReply)/\d=w.alloc (.cells (a0b K ps k fd e n til g i m j) TOp))/\Hid (N=w.heap.size+1/\M=w.heap.size)/\Hid (StIn w0 L B C s t sn fp σ)/\
   Hid (Fr B w w0/\B<=w0.heap.size/\w.heap.size<=N/\N<w0.heap.size/\B<=N/\M<w0.heap.size)/\Hid (w0.heap[N]? =some (.cells rpZ TReply (0,0))/\w0.heap[M]? =some (.cells (a0b K ps k fd e n til g i m j) TOp (0,0)))/\Below w.heap.size w w0:=by
 obtain⟨d,a⟩:=qnm (w.alloc (.cells (a0b K ps k fd e n til g i m j) TOp));obtain⟨w0,b⟩:=qnm (d.alloc (.cells rpZ TReply));have hb1:=qba a;have c:=qba b;have f:d.heap.size=w.heap.size+1:=by rw[a];simp
 have p:w0.heap.size=w.heap.size+2:=by rw[b];simp[f]
 have hb0:Below w.heap.size w w0:=hb1.trans (c.mono hb1.size);refine⟨d,w0,w.heap.size+1,w.heap.size,⟨b,a⟩,⟨rfl,rfl⟩,h.below (Ad l o) hb0,⟨Fr.of hb0 o,by omega,by omega,by omega,by omega,by omega⟩,⟨?_,(c.block _ (by omega)).trans (by rw[a];exact Ae w _)⟩,hb0⟩;rw[<-f,b];exact Ae d _
theorem a2s(k:Nat)(K:Int)(hK:K=(k:Int))(hk:1<=k/\k<=17)(h:StIn w L B C s t sn fp σ)(j:C<=B)(r:B<=w.heap.size)(y:Glob w)(p x:List UInt8)(D:p.length<=1000000)(o:x.length<=1000000)(fd b n:Int)(til:Nat)(c:Int)(d:Option Addr)(g f:Nat){PT:List (List (List UInt8))×Nat}(l:a0y (a3t k p x)=PT):
  ∃i a N M,Hid (a=i.alloc (.cells rpZ TReply)/\i=w.alloc (.cells (a0b K (a0c p) (a0c x) fd b n til c d g f) TOp))/\Hid (N=w.heap.size+1/\M=w.heap.size)/\Hid (StIn a L B C s t sn fp σ)/\
   Hid (Fr B w a/\B<=a.heap.size/\w.heap.size<=N/\N<a.heap.size/\B<=N/\M<a.heap.size)/\Hid (a.heap[N]? =some (.cells rpZ TReply (0,0))/\a.heap[M]? =some (.cells (a0b K (a0c p) (a0c x) fd b n til c d g f) TOp (0,0)))/\
   Hid (Calls Tryz.prog 78 #[.pointer (some ⟨s,0,none⟩),.agg (a0b K (a0c p) (a0c x) fd b n til c d g f)] a fun e w'=>(∃v,e= .returned (.tuple #[v,.int .i64 (PT.2:Int)])/\OwnP w' a.heap.size v PT.1)/\Below a.heap.size a w'):=by
 subst hK;obtain⟨i,a,N,M,z,A,h3,q,u,hb0⟩:=b4r (k:Int) h j r (a0c p) (a0c x) fd b n til c d g f;have m:=a83 s k hk p x D o fd b n til c d g f a (y.below hb0);rw[l] at m;exact⟨i,a,N,M,z,A,h3,q,u,m⟩
theorem a2t{w0 w2 wd:World}{N M:Nat}{k:Int}{ps o:ByteArray}{fd e p:Int}{til:Nat}{j:Int}{m:Option Addr}{q n:Nat}(g:C<=B)(i:StIn w0 L B C s t sn fp σ)(b:Fr B w w0/\B<=w0.heap.size/\w.heap.size<=N/\N<w0.heap.size/\B<=N/\M<w0.heap.size)
  (d:w0.heap[N]? =some (.cells rpZ TReply (0,0))/\w0.heap[M]? =some (.cells (a0b k ps o fd e p til j m q n) TOp (0,0))) (hb2:Below w0.heap.size w0 w2) (f:Below w2.heap.size w2 wd):
  (w2.cell? ⟨M,0,none⟩=some (.int .i64 k)/\w2.cell? ⟨M,1,none⟩=some (.string ps)/\w2.cell? ⟨M,2,none⟩=some (.string o)/\w2.cell? ⟨M,3,none⟩=some (.int .i64 fd)/\w2.cell? ⟨M,4,none⟩=some (.int .i64 e)/\w2.cell? ⟨M,5,none⟩=some (.int .i64 p)/\w2.cell? ⟨M,6,none⟩=some (.int .u64 (til:Int))/\w2.cell? ⟨M,7,none⟩=some (.int .i64 j)/\w2.cell? ⟨M,8,none⟩=some (.slice m q n))/\
   w2.cell? ⟨s,0,none⟩=some (.pointer (some ⟨t,0,none⟩))/\w2.cell? ⟨s,1,none⟩=some (.pointer (some ⟨sn,0,none⟩))/\w2.cell? ⟨s,2,none⟩=some (.int .u64 (σ.now:Int))/\StIn wd L B C s t sn fp σ/\B<=wd.heap.size/\
   Hid (Fr B w wd/\StIn wd L B C s t sn fp σ/\B<=wd.heap.size/\wd.heap[N]? =some (.cells rpZ TReply (0,0))):=by
 have c:C<=w0.heap.size:=Ad g b.2.1;have a:=hb2.trans (f.mono hb2.size);have h:=i.below c hb2;have l:=i.below c a;exact⟨a0A ((hb2.block M b.2.2.2.2.2).trans d.2),a0a h.cel 0,a0a h.cel 1,a0a h.cel 2,l,Ad b.2.1 a.size,b.1.trans (Fr.of a b.2.1),l,Ad b.2.1 a.size,(a.block N b.2.2.2.1).trans d.1⟩
def b77(B:Nat)(W:World)(Y:Array Value->World->Prop)(e:Ending)(w':World):Prop:=
 ∃(er:Nat) (h:Int) (d:Option Addr) (f b:Nat) (a:Option Addr) (c g:Nat) (nd:Nd),e= .returned (.agg (rpC (er:Int) h (.slice d f b) (.slice a c g) nd))/\Y (rpC (er:Int) h (.slice d f b) (.slice a c g) nd) w'/\Fr B W w'
def b68(B:Nat)(W:World)(Y:Array Value->World->Prop)(e:Ending)(w':World):Prop:=∃a:Nat,e= .returned (.int .i64 (a:Int))/\Y (noC (a:Int) 0) w'/\Fr B W w'
def a40(B:Nat)(Y:Array Value->World->Prop):Prop:=∀C w w',B<=w.heap.size->Below w.heap.size w w'->Y C w->Y C w'
def DoR(w:World)(B:Nat)(Y:Array Value->World->Prop)(e:Ending)(w':World):Prop:=
 ∃(R:Array Value) (a:World) (N:Nat),e= .returned (.agg R)/\Y R a/\Fr B w a/\a.heap[N]? =some (.cells rpZ TReply (0,0))/\B<=N/\w.heap.size<=N/\w'=a.setRow N R
theorem a0O{b:Array Oper}{rest:List Oper}{o:Oper}{a:Act}{w:World}{Q:Exit->Act->World->Prop}(y:Nat){N:Nat}(R:Array Value)(g:w.heap[N]? =some (.cells rpZ TReply (0,0)))
  (h:wpList Tryz.prog b Q rest (a.put o.dst undef) (w.setRow N R)) (d:o.guard=none:=by rfl) (f:o.op= .store TReply (.tmp 4) (.tmp y):=by rfl) (j:a.eval (.tmp 4)= .pointer (some ⟨N,0,none⟩):=by rfl) (e:a.eval (.tmp y)= .agg R:=by rfl)
  (k:(Tryz.prog.info? TReply).map (·.size)=some R.size:=by kernel_rfl) (c:rpZ.size=R.size:=by kernel_rfl) (i:R.all (·.oneCell')=true:=by kernel_rfl):wpList Tryz.prog b Q (o :: rest) a w:=
 Ao d TReply (.tmp 4) (.tmp y) f N R j e TReply rpZ g k c i h
theorem a1B{b:Func}{P:Ending->World->Prop}{a:Act}{w:World}{N:Nat}{R c:Array Value}(d:w.heap[N]? =some (.cells c TReply (0,0)))(e:P (.returned (.agg R)) (w.setRow N R))(h:b.results= #[.cell 4 TReply]:=by rfl)
  (g:a.tmps.getD 4 undef= .pointer (some ⟨N,0,none⟩):=by rfl) (i:(Tryz.prog.info? TReply).map (·.size)=some R.size:=by kernel_rfl) (f:a.defers=[]:=by rfl):bodyPost Tryz.prog b P .ret a (w.setRow N R):=
 Aj (v:=.agg R) (Ap h _ _ N TReply _ (0,0) _ g (AF _ _ _ _ TReply (0,0) d) Tryz.underlying41 rfl i) f e
theorem a9s(h:StIn w L B C s t sn fp σ)(j:C<=B)(O:B<=w.heap.size)(hg:Glob w)(p x:List UInt8)(Z:p.length<=1000000)(hx:x.length<=1000000)(q:List (List UInt8))(hq:a0g p=(q,0))
  (fd u n:Int) (til:Nat) (sp:Int) (da:Option Addr) (dl V:Nat) (Y:Array Value->World->Prop) (l:∀(W:World) (a:Option Addr) (m E:Nat),StIn W L B C s t sn fp σ->B<=W.heap.size->Ss W a m E q->Calls Tryz.prog 80 #[.pointer (some ⟨s,0,none⟩),.slice a m E] W fun e w'=>b77 B W Y e w'):
  Calls Tryz.prog 37 #[.pointer (some ⟨s,0,none⟩),.agg (a0b 1 (a0c p) (a0c x) fd u n til sp da dl V)] w fun e w'=>DoR w B Y e w':=by
 obtain⟨w1,w0,N,M,r,HN,H0,d,D,I⟩:=a2s 1 1 rfl (by omega) h j O hg p x Z hx fd u n til sp da dl V (a2o hq rfl);have Q:=qh l;have HX:=qh (aI j O);obtain⟨T,R,G,H,P,F,S,J,K⟩:=a0A D.out.2;clear h j O Z hx hg l hq;unfold a0b at I;try unfold a0b at Q
 go_enter Tryz.func37,Tryz.ntmps37;go_upto_region 1 with fail
 have b:=qh r.out;unfold rpZ a0b at b;unfold a0b;rw[<-b.out.2,<-b.out.1,<-HN.out.1,<-HN.out.2];clear b r;go_wp2_with fail;refine I.out.mono ?_;rintro e w2 ⟨⟨v,rfl,hO⟩,hb2⟩;clear I T R G H P F S J K;obtain⟨g,cap,a,m,E,rfl,a0,hS⟩:=hO.head;simp only[AA,Ay,AD];obtain⟨wd,z⟩:=qnm w2;have i:Below w2.heap.size w2 wd:=by rw[z];exact Ab _ _
 obtain⟨⟨T,R,G,H,P,F,S,J,K⟩,c0,c1,c2,k,o,X⟩:=a2t HX.out.1 H0.out d.out D.out hb2 i;have y:=qh (Q.out wd a m E k o (hS.below i));clear Q hO k o hb2 i hS;subst z;go_wp2_with fail;refine y.out.mono ?_;rintro e w3 ⟨er,nr,a1,n1,k1,a2,n2,k2,nd,rfl,A,c⟩;have f:=c.2 N _ _ X.out.2.2.2;have U:=qh (aI A (X.out.1.trans c));clear A c y T R G H P F S J K c0 c1 c2;unfold rpC at U⊢;go_wp2_with (refine a0O 29 _ f ?_);exact a1B f ⟨_,w3,N,rfl,U.out.1,U.out.2,f,d.out.2.2.2.2.1,d.out.2.2.1,rfl⟩
theorem b7V(h:StIn w L B C s t sn fp σ)(k:C<=B)(O:B<=w.heap.size)(hg:Glob w)(p x:List UInt8)(hp:p.length<=1000000)(hx:x.length<=1000000)(q:List (List UInt8))(hq:a0g p=(q,0))
  (fd y n:Int) (til:Nat) (P:Int) (da:Option Addr) (dl X:Nat) (Y:Array Value->World->Prop) (o:∀(W:World) (a:Option Addr) (m E:Nat),StIn W L B C s t sn fp σ->B<=W.heap.size->Ss W a m E q->Calls Tryz.prog 82 #[.pointer (some ⟨s,0,none⟩),.slice a m E,.int .i64 P] W fun e w'=>b77 B W Y e w'):
  Calls Tryz.prog 37 #[.pointer (some ⟨s,0,none⟩),.agg (a0b 3 (a0c p) (a0c x) fd y n til P da dl X)] w fun e w'=>DoR w B Y e w':=by
 obtain⟨w1,w0,N,M,u,HN,H0,d,D,I⟩:=a2s 3 3 rfl (by omega) h k O hg p x hp hx fd y n til P da dl X (a2o hq rfl);have R:=qh o;have HX:=qh (aI k O);obtain⟨U,S,G,H,Q,F,T,J,K⟩:=a0A D.out.2;clear h k O hp hx hg o hq;unfold a0b at I;try unfold a0b at R
 go_enter Tryz.func37,Tryz.ntmps37;go_upto_region 1 with fail
 have b:=qh u.out;unfold rpZ a0b at b;unfold a0b;rw[<-b.out.2,<-b.out.1,<-HN.out.1,<-HN.out.2];clear b u;go_wp2_with fail;refine I.out.mono ?_;rintro e w2 ⟨⟨v,rfl,hO⟩,hb2⟩;clear I U S G H Q F T J K;obtain⟨g,cap,a,m,E,rfl,a0,hS⟩:=hO.head;simp only[AA,Ay,AD];obtain⟨wd,i⟩:=qnm w2.drew;have j:Below w2.heap.size w2 wd:=by rw[i];exact(Ab _ _).drew
 obtain⟨⟨U,S,G,H,Q,F,T,J,K⟩,c0,c1,c2,l,r,Z⟩:=a2t HX.out.1 H0.out d.out D.out hb2 j;have z:=qh (R.out wd a m E l r (hS.below j));clear R hO l r hb2 j hS;go_upto_region 11 with fail
 refine a0K 6 (by kernel_rfl) (by kernel_rfl) rfl ?_;simp only[qtc,a3E];repeat still_step
 refine AK ?_;rw[<-i];clear i;go_wp2_with fail;refine z.out.mono ?_;rintro e w3 ⟨er,nr,a1,n1,k1,a2,n2,k2,nd,rfl,A,c⟩;have f:=c.2 N _ _ Z.out.2.2.2;have V:=qh (aI A (Z.out.1.trans c));clear A c z U S G H Q F T J K c0 c1 c2;unfold rpC at V⊢;go_wp2_with (refine a0O 53 _ f ?_);exact a1B f ⟨_,w3,N,rfl,V.out.1,V.out.2,f,d.out.2.2.2.2.1,d.out.2.2.1,rfl⟩
theorem b7U(h:StIn w L B C s t sn fp σ)(g:C<=B)(K:B<=w.heap.size)(Z:Glob w)(p x:List UInt8)(V:p.length<=1000000)(hx:x.length<=1000000)
  (fd c n:Int) (til:Nat) (J:Int) (H:Option Addr) (I z:Nat) (Y:Array Value->World->Prop) (j:∀(W:World),StIn W L B C s t sn fp σ->B<=W.heap.size->Calls Tryz.prog 83 #[.pointer (some ⟨s,0,none⟩),.agg (a0b 4 (a0c p) (a0c x) fd c n til J H I z)] W fun e w'=>b77 B W Y e w'):
  Calls Tryz.prog 37 #[.pointer (some ⟨s,0,none⟩),.agg (a0b 4 (a0c p) (a0c x) fd c n til J H I z)] w fun e w'=>DoR w B Y e w':=by
 obtain⟨w1,w0,N,M,l,HN,H0,d,u,E⟩:=a2s 4 4 rfl (by omega) h g K Z p x V hx fd c n til J H I z (PT:=([],0)) rfl;have P:=qh j;have HX:=qh (aI g K);obtain⟨S,Q,A,D,O,y,R,F,G⟩:=a0A u.out.2;clear h g K V hx Z j;unfold a0b at E;try unfold a0b at P
 go_enter Tryz.func37,Tryz.ntmps37;go_upto_region 1 with fail
 have a:=qh l.out;unfold rpZ a0b at a;unfold a0b;rw[<-a.out.2,<-a.out.1,<-HN.out.1,<-HN.out.2];clear a l;go_wp2_with fail;refine E.out.mono ?_;rintro e w2 ⟨⟨v,rfl,X⟩,hb2⟩;clear E S Q A D O y R F G;obtain⟨pa,pc,rfl⟩:=X.none;obtain⟨wd,m⟩:=qnm w2;have r:Below w2.heap.size w2 wd:=by rw[m];exact Ab _ _
 obtain⟨⟨S,Q,A,D,O,y,R,F,G⟩,c0,c1,c2,i,k,U⟩:=a2t HX.out.1 H0.out d.out u.out hb2 r;have o:=qh (P.out wd i k);clear P X i k hb2 r;subst m;go_wp2_with fail;refine o.out.mono ?_;rintro e w3 ⟨er,nr,a1,n1,k1,a2,n2,k2,nd,rfl,q,b⟩;have f:=b.2 N _ _ U.out.2.2.2;have T:=qh (aI q (U.out.1.trans b));clear q b o S Q A D O y R F G c0 c1 c2;unfold rpC at T⊢;go_wp2_with (refine a0O 58 _ f ?_);exact a1B f ⟨_,w3,N,rfl,T.out.1,T.out.2,f,d.out.2.2.2.2.1,d.out.2.2.1,rfl⟩
theorem b6B(h:StIn w L B C s t sn fp σ)(j:C<=B)(K:B<=w.heap.size)(hg:Glob w)(p x:List UInt8)(Z:p.length<=1000000)(hx:x.length<=1000000)
  (fd d n:Int) (til:Nat) (O:Int) (r:Option Addr) (y m:Nat) (V:List UInt8) (hD:Bs w r y m V) (Y:Array Value->World->Prop) (l:∀(W:World),StIn W L B C s t sn fp σ->B<=W.heap.size->Bs W r y m V->Calls Tryz.prog 84 #[.pointer (some ⟨s,0,none⟩),.agg (a0b 5 (a0c p) (a0c x) fd d n til O r y m)] W fun e w'=>b77 B W Y e w'):
  Calls Tryz.prog 37 #[.pointer (some ⟨s,0,none⟩),.agg (a0b 5 (a0c p) (a0c x) fd d n til O r y m)] w fun e w'=>DoR w B Y e w':=by
 obtain⟨w1,w0,N,M,a,HN,H0,f,A,G⟩:=a2s 5 5 rfl (by omega) h j K hg p x Z hx fd d n til O r y m (PT:=([],0)) rfl;have Q:=qh l;have J:=qh (hD.below (show Below w.heap.size w w0 by rw[a.out.1,a.out.2];exact((Ab _ w).alloc (Aa _) _).alloc (by simp) _));have HX:=qh (aI j K);obtain⟨T,R,E,F,P,D,S,H,I⟩:=a0A A.out.2;clear h j K Z hx hg l hD;unfold a0b at G;try unfold a0b at Q
 go_enter Tryz.func37,Tryz.ntmps37;go_upto_region 1 with fail
 have b:=qh a.out;unfold rpZ a0b at b;unfold a0b;rw[<-b.out.2,<-b.out.1,<-HN.out.1,<-HN.out.2];clear b a;go_wp2_with fail;refine G.out.mono ?_;rintro e w2 ⟨⟨v,rfl,hO⟩,hb2⟩;clear G T R E F P D S H I;obtain⟨pa,pc,rfl⟩:=hO.none;obtain⟨wd,u⟩:=qnm w2;have i:Below w2.heap.size w2 wd:=by rw[u];exact Ab _ _
 obtain⟨⟨T,R,E,F,P,D,S,H,I⟩,c0,c1,c2,k,o,X⟩:=a2t HX.out.1 H0.out f.out A.out hb2 i;have q:=qh (Q.out wd k o ((J.out.below hb2).below i));clear Q hO k o hb2 i;subst u;go_wp2_with fail;refine q.out.mono ?_;rintro e w3 ⟨er,nr,a1,n1,k1,a2,n2,k2,nd,rfl,z,c⟩;have g:=c.2 N _ _ X.out.2.2.2;have U:=qh (aI z (X.out.1.trans c));clear z c q T R E F P D S H I c0 c1 c2;unfold rpC at U⊢;go_wp2_with (refine a0O 63 _ g ?_);exact a1B g ⟨_,w3,N,rfl,U.out.1,U.out.2,g,f.out.2.2.2.2.1,f.out.2.2.1,rfl⟩
theorem b1o(h:StIn w L B C s t sn fp σ)(i:C<=B)(S:B<=w.heap.size)(hg:Glob w)(p x:List UInt8)(hp:p.length<=1000000)(hx:x.length<=1000000)
  (fd c n:Int) (til:Nat) (R:Int) (P:Option Addr) (Q F:Nat) (Y:Array Value->World->Prop) (l:∀(W:World),StIn W L B C s t sn fp σ->B<=W.heap.size->Calls Tryz.prog 85 #[.pointer (some ⟨s,0,none⟩),.agg (a0b 6 (a0c p) (a0c x) fd c n til R P Q F)] W fun e w'=>b68 B W Y e w') (hY:a40 B Y):
  Calls Tryz.prog 37 #[.pointer (some ⟨s,0,none⟩),.agg (a0b 6 (a0c p) (a0c x) fd c n til R P Q F)] w fun e w'=>DoR w B Y e w':=by
 obtain⟨w1,w0,N,M,o,HN,H0,f,A,I⟩:=a2s 6 6 rfl (by omega) h i S hg p x hp hx fd c n til R P Q F (PT:=([],0)) rfl;have U:=qh l;have HY:=qh hY;have HX:=qh (aI i S);obtain⟨o0,V,G,H,T,E,X,J,K⟩:=a0A A.out.2;clear h i S hp hx hg l hY;unfold a0b at I;try unfold a0b at U
 go_enter Tryz.func37,Tryz.ntmps37;go_upto_region 1 with fail
 have a:=qh o.out;unfold rpZ a0b at a;unfold a0b;rw[<-a.out.2,<-a.out.1,<-HN.out.1,<-HN.out.2];clear a o;go_wp2_with fail;refine I.out.mono ?_;rintro e w2 ⟨⟨v,rfl,hO⟩,hb2⟩;clear I o0 V G H T E X J K;obtain⟨pa,pc,rfl⟩:=hO.none;obtain⟨wd,q⟩:=qnm w2;have z:Below w2.heap.size w2 wd:=by rw[q];exact Ab _ _
 obtain⟨⟨o0,V,G,H,T,E,X,J,K⟩,c0,c1,c2,k,m,HF⟩:=a2t HX.out.1 H0.out f.out A.out hb2 z;have r:=qh (U.out wd k m);clear U hO k m hb2 z;subst q;go_wp2_with fail;refine r.out.mono ?_;rintro e w3 ⟨O,rfl,y,b⟩;have u:=b.2 N _ _ HF.out.2.2.2;have Z:=qh (a1G O w3);have D:=qh (aI y (aI (HF.out.1.trans b) u));clear y b u r o0 V G H T E X J K c0 c1 c2;go_wp2_with fail;refine Z.out.mono ?_;rintro e w4 ⟨rfl,hb4⟩;have g:=Ad HX.out.2 D.out.2.1.size;have d:=(hb4.block N (ltH D.out.2.2)).trans D.out.2.2;have j:=qh (aI (HY.out _ _ _ g hb4 D.out.1) (D.out.2.1.trans (Fr.of hb4 g)));clear hb4 g;unfold noC at j⊢;go_wp2_with (refine a0O 69 _ d ?_);exact a1B d ⟨_,w4,N,rfl,j.out.1,j.out.2,d,f.out.2.2.2.2.1,f.out.2.2.1,rfl⟩
theorem b7X(h:StIn w L B C s t sn fp σ)(r:C<=B)(hB:B<=w.heap.size)(hg:Glob w)(p x:List UInt8)(hp:p.length<=1000000)(hx:x.length<=1000000)(q:List (List UInt8))(hq:a0g p=(q,0))(q2:List (List UInt8))(z:a0g x=(q2,0))
  (fd E n:Int) (til:Nat) (sp:Int) (da:Option Addr) (dl dc:Nat) (Y:Array Value->World->Prop) (y:∀(W:World) (a:Option Addr) (m Q:Nat) (P:Option Addr) (O d:Nat),StIn W L B C s t sn fp σ->B<=W.heap.size->Ss W a m Q q->Ss W P O d q2->Calls Tryz.prog 86 #[.pointer (some ⟨t,0,none⟩),.slice a m Q,.slice P O d] W fun e w'=>b68 B W Y e w') (hY:a40 B Y):
  Calls Tryz.prog 37 #[.pointer (some ⟨s,0,none⟩),.agg (a0b 7 (a0c p) (a0c x) fd E n til sp da dl dc)] w fun e w'=>DoR w B Y e w':=by
 obtain⟨w1,w0,N,M,D,HN,H0,j,J,U⟩:=a2s 7 7 rfl (by omega) h r hB hg p x hp hx fd E n til sp da dl dc (a82 hq z rfl);have HC:=qh y;have HY:=qh hY;have HX:=qh (aI r hB);obtain⟨o0,o1,S,T,o4,R,o6,V,X⟩:=a0A J.out.2;clear h r hB hp hx hg y hY hq z;unfold a0b at U;try unfold a0b at HC
 go_enter Tryz.func37,Tryz.ntmps37;go_upto_region 1 with fail
 have b:=qh D.out;unfold rpZ a0b at b;unfold a0b;rw[<-b.out.2,<-b.out.1,<-HN.out.1,<-HN.out.2];clear b D;go_wp2_with fail;refine U.out.mono ?_;rintro e w2 ⟨⟨v,rfl,hO⟩,hb2⟩;clear U o0 o1 S T o4 R o6 V X;obtain⟨g,cap,a,m,Q,P,O,d,rfl,a1,a2,hS,H⟩:=hO.two;obtain⟨wd,l⟩:=qnm w2.drew;have c:Below w2.heap.size w2 wd:=by rw[l];exact(Ab _ _).drew
 obtain⟨⟨o0,o1,S,T,o4,R,o6,V,X⟩,c0,c1,c2,u,A,HF⟩:=a2t HX.out.1 H0.out j.out J.out hb2 c;have F:=qh (HC.out wd a m Q P O d u A (hS.below c) (H.below c));clear HC hO u A hb2 c hS H;go_upto_region 19 with fail
 refine a0K 10 (by kernel_rfl) (by kernel_rfl) rfl ?_;simp only[qtc,a3E];repeat still_step
 refine AK ?_;rw[<-l];clear l;go_wp2_with fail;refine F.out.mono ?_;rintro e w3 ⟨Z,rfl,I,f⟩;have G:=f.2 N _ _ HF.out.2.2.2;have a0:=qh (a1G Z w3);have K:=qh (aI I (aI (HF.out.1.trans f) G));clear I f G F o0 o1 S T o4 R o6 V X c0 c1 c2;go_wp2_with fail;refine a0.out.mono ?_;rintro e w4 ⟨rfl,hb4⟩;have o:=Ad HX.out.2 K.out.2.1.size;have i:=(hb4.block N (ltH K.out.2.2)).trans K.out.2.2;have k:=qh (aI (HY.out _ _ _ o hb4 K.out.1) (K.out.2.1.trans (Fr.of hb4 o)));clear hb4 o;unfold noC at k⊢;go_wp2_with (refine a0O 83 _ i ?_);exact a1B i ⟨_,w4,N,rfl,k.out.1,k.out.2,i,j.out.2.2.2.2.1,j.out.2.2.1,rfl⟩
theorem a9r(h:StIn w L B C s t sn fp σ)(k:C<=B)(T:B<=w.heap.size)(hg:Glob w)(p x:List UInt8)(hp:p.length<=1000000)(hx:x.length<=1000000)(q:List (List UInt8))(hq:a0g p=(q,0))
  (fd z n:Int) (til:Nat) (sp:Int) (da:Option Addr) (dl dc:Nat) (Y:Array Value->World->Prop) (r:∀(W:World) (a:Option Addr) (m I:Nat),StIn W L B C s t sn fp σ->B<=W.heap.size->Ss W a m I q->Calls Tryz.prog 87 #[.pointer (some ⟨s,0,none⟩),.slice a m I] W fun e w'=>b68 B W Y e w') (hY:a40 B Y):
  Calls Tryz.prog 37 #[.pointer (some ⟨s,0,none⟩),.agg (a0b 8 (a0c p) (a0c x) fd z n til sp da dl dc)] w fun e w'=>DoR w B Y e w':=by
 obtain⟨w1,w0,N,M,y,HN,H0,f,G,P⟩:=a2s 8 8 rfl (by omega) h k T hg p x hp hx fd z n til sp da dl dc (a2o hq rfl);have V:=qh r;have HY:=qh hY;have HX:=qh (aI k T);obtain⟨o0,X,K,O,U,J,Z,Q,R⟩:=a0A G.out.2;clear h k T hp hx hg r hY hq;unfold a0b at P;try unfold a0b at V
 go_enter Tryz.func37,Tryz.ntmps37;go_upto_region 1 with fail
 have b:=qh y.out;unfold rpZ a0b at b;unfold a0b;rw[<-b.out.2,<-b.out.1,<-HN.out.1,<-HN.out.2];clear b y;go_wp2_with fail;refine P.out.mono ?_;rintro e w2 ⟨⟨v,rfl,hO⟩,hb2⟩;clear P o0 X K O U J Z Q R;obtain⟨g,cap,a,m,I,rfl,a1,hS⟩:=hO.head;simp only[AA,Ay,AD];obtain⟨wd,E⟩:=qnm w2;have i:Below w2.heap.size w2 wd:=by rw[E];exact Ab _ _
 obtain⟨⟨o0,X,K,O,U,J,Z,Q,R⟩,c0,c1,c2,o,u,HF⟩:=a2t HX.out.1 H0.out f.out G.out hb2 i;have A:=qh (V.out wd a m I o u (hS.below i));clear V hO o u hb2 i hS;subst E;go_wp2_with fail;refine A.out.mono ?_;rintro e w3 ⟨S,rfl,F,c⟩;have D:=c.2 N _ _ HF.out.2.2.2;have a0:=qh (a1G S w3);have H:=qh (aI F (aI (HF.out.1.trans c) D));clear F c D A o0 X K O U J Z Q R c0 c1 c2;go_wp2_with fail;refine a0.out.mono ?_;rintro e w4 ⟨rfl,hb4⟩;have j:=Ad HX.out.2 H.out.2.1.size;have d:=(hb4.block N (ltH H.out.2.2)).trans H.out.2.2;have l:=qh (aI (HY.out _ _ _ j hb4 H.out.1) (H.out.2.1.trans (Fr.of hb4 j)));clear hb4 j;unfold noC at l⊢;go_wp2_with (refine a0O 91 _ d ?_);exact a1B d ⟨_,w4,N,rfl,l.out.1,l.out.2,d,f.out.2.2.2.2.1,f.out.2.2.1,rfl⟩
theorem b6C(h:StIn w L B C s t sn fp σ)(l:C<=B)(T:B<=w.heap.size)(hg:Glob w)(p x:List UInt8)(hp:p.length<=1000000)(hx:x.length<=1000000)(q:List (List UInt8))(hq:a0g p=(q,0))
  (fd A n:Int) (til:Nat) (sp:Int) (da:Option Addr) (dl dc:Nat) (Y:Array Value->World->Prop) (u:∀(W:World) (a:Option Addr) (m I:Nat),StIn W L B C s t sn fp σ->B<=W.heap.size->Ss W a m I q->Calls Tryz.prog 88 #[.pointer (some ⟨t,0,none⟩),.slice a m I] W fun e w'=>b68 B W Y e w') (hY:a40 B Y):
  Calls Tryz.prog 37 #[.pointer (some ⟨s,0,none⟩),.agg (a0b 9 (a0c p) (a0c x) fd A n til sp da dl dc)] w fun e w'=>DoR w B Y e w':=by
 obtain⟨w1,w0,N,M,z,HN,H0,f,G,P⟩:=a2s 9 9 rfl (by omega) h l T hg p x hp hx fd A n til sp da dl dc (a2o hq rfl);have V:=qh u;have HY:=qh hY;have HX:=qh (aI l T);obtain⟨o0,X,K,O,U,J,Z,Q,R⟩:=a0A G.out.2;clear h l T hp hx hg u hY hq;unfold a0b at P;try unfold a0b at V
 go_enter Tryz.func37,Tryz.ntmps37;go_upto_region 1 with fail
 have b:=qh z.out;unfold rpZ a0b at b;unfold a0b;rw[<-b.out.2,<-b.out.1,<-HN.out.1,<-HN.out.2];clear b z;go_wp2_with fail;refine P.out.mono ?_;rintro e w2 ⟨⟨v,rfl,hO⟩,hb2⟩;clear P o0 X K O U J Z Q R;obtain⟨g,cap,a,m,I,rfl,a1,hS⟩:=hO.head;simp only[AA,Ay,AD];obtain⟨wd,i⟩:=qnm w2.drew;have j:Below w2.heap.size w2 wd:=by rw[i];exact(Ab _ _).drew
 obtain⟨⟨o0,X,K,O,U,J,Z,Q,R⟩,c0,c1,c2,r,y,HF⟩:=a2t HX.out.1 H0.out f.out G.out hb2 j;have D:=qh (V.out wd a m I r y (hS.below j));clear V hO r y hb2 j hS;go_upto_region 23 with fail
 refine a0K 7 (by kernel_rfl) (by kernel_rfl) rfl ?_;simp only[qtc,a3E];repeat still_step
 refine AK ?_;rw[<-i];clear i;go_wp2_with fail;refine D.out.mono ?_;rintro e w3 ⟨S,rfl,F,c⟩;have E:=c.2 N _ _ HF.out.2.2.2;have a0:=qh (a1G S w3);have H:=qh (aI F (aI (HF.out.1.trans c) E));clear F c E D o0 X K O U J Z Q R c0 c1 c2;go_wp2_with fail;refine a0.out.mono ?_;rintro e w4 ⟨rfl,hb4⟩;have k:=Ad HX.out.2 H.out.2.1.size;have d:=(hb4.block N (ltH H.out.2.2)).trans H.out.2.2;have o:=qh (aI (HY.out _ _ _ k hb4 H.out.1) (H.out.2.1.trans (Fr.of hb4 k)));clear hb4 k;unfold noC at o⊢;go_wp2_with (refine a0O 102 _ d ?_);exact a1B d ⟨_,w4,N,rfl,o.out.1,o.out.2,d,f.out.2.2.2.2.1,f.out.2.2.1,rfl⟩
theorem b4y(h:StIn w L B C s t sn fp σ)(r:C<=B)(hB:B<=w.heap.size)(hg:Glob w)(p x:List UInt8)(hp:p.length<=1000000)(hx:x.length<=1000000)(q:List (List UInt8))(hq:a0g p=(q,0))(q2:List (List UInt8))(z:a0g x=(q2,0))
  (fd E n:Int) (til:Nat) (sp:Int) (da:Option Addr) (dl dc:Nat) (Y:Array Value->World->Prop) (y:∀(W:World) (a:Option Addr) (m Q:Nat) (P:Option Addr) (O d:Nat),StIn W L B C s t sn fp σ->B<=W.heap.size->Ss W a m Q q->Ss W P O d q2->Calls Tryz.prog 89 #[.pointer (some ⟨t,0,none⟩),.slice a m Q,.slice P O d] W fun e w'=>b68 B W Y e w') (hY:a40 B Y):
  Calls Tryz.prog 37 #[.pointer (some ⟨s,0,none⟩),.agg (a0b 10 (a0c p) (a0c x) fd E n til sp da dl dc)] w fun e w'=>DoR w B Y e w':=by
 obtain⟨w1,w0,N,M,D,HN,H0,j,J,U⟩:=a2s 10 10 rfl (by omega) h r hB hg p x hp hx fd E n til sp da dl dc (a82 hq z rfl);have HC:=qh y;have HY:=qh hY;have HX:=qh (aI r hB);obtain⟨o0,o1,S,T,o4,R,o6,V,X⟩:=a0A J.out.2;clear h r hB hp hx hg y hY hq z;unfold a0b at U;try unfold a0b at HC
 go_enter Tryz.func37,Tryz.ntmps37;go_upto_region 1 with fail
 have b:=qh D.out;unfold rpZ a0b at b;unfold a0b;rw[<-b.out.2,<-b.out.1,<-HN.out.1,<-HN.out.2];clear b D;go_wp2_with fail;refine U.out.mono ?_;rintro e w2 ⟨⟨v,rfl,hO⟩,hb2⟩;clear U o0 o1 S T o4 R o6 V X;obtain⟨g,cap,a,m,Q,P,O,d,rfl,a1,a2,hS,H⟩:=hO.two;obtain⟨wd,l⟩:=qnm w2.drew;have c:Below w2.heap.size w2 wd:=by rw[l];exact(Ab _ _).drew
 obtain⟨⟨o0,o1,S,T,o4,R,o6,V,X⟩,c0,c1,c2,u,A,HF⟩:=a2t HX.out.1 H0.out j.out J.out hb2 c;have F:=qh (HC.out wd a m Q P O d u A (hS.below c) (H.below c));clear HC hO u A hb2 c hS H;go_upto_region 25 with fail
 refine a0K 10 (by kernel_rfl) (by kernel_rfl) rfl ?_;simp only[qtc,a3E];repeat still_step
 refine AK ?_;rw[<-l];clear l;go_wp2_with fail;refine F.out.mono ?_;rintro e w3 ⟨Z,rfl,I,f⟩;have G:=f.2 N _ _ HF.out.2.2.2;have a0:=qh (a1G Z w3);have K:=qh (aI I (aI (HF.out.1.trans f) G));clear I f G F o0 o1 S T o4 R o6 V X c0 c1 c2;go_wp2_with fail;refine a0.out.mono ?_;rintro e w4 ⟨rfl,hb4⟩;have o:=Ad HX.out.2 K.out.2.1.size;have i:=(hb4.block N (ltH K.out.2.2)).trans K.out.2.2;have k:=qh (aI (HY.out _ _ _ o hb4 K.out.1) (K.out.2.1.trans (Fr.of hb4 o)));clear hb4 o;unfold noC at k⊢;go_wp2_with (refine a0O 116 _ i ?_);exact a1B i ⟨_,w4,N,rfl,k.out.1,k.out.2,i,j.out.2.2.2.2.1,j.out.2.2.1,rfl⟩
theorem b7W(h:StIn w L B C s t sn fp σ)(l:C<=B)(R:B<=w.heap.size)(hg:Glob w)(p x:List UInt8)(hp:p.length<=1000000)(hx:x.length<=1000000)(q:List (List UInt8))(hq:a0g p=(q,0))
  (fd d n:Int) (til:Nat) (S:Int) (P:Option Addr) (Q G:Nat) (Y:Array Value->World->Prop) (r:∀(W:World) (a:Option Addr) (m E:Nat),StIn W L B C s t sn fp σ->B<=W.heap.size->Ss W a m E q->Calls Tryz.prog 90 #[.pointer (some ⟨s,0,none⟩),.agg (a0b 11 (a0c p) (a0c x) fd d n til S P Q G),.slice a m E] W fun e w'=>b77 B W Y e w'):
  Calls Tryz.prog 37 #[.pointer (some ⟨s,0,none⟩),.agg (a0b 11 (a0c p) (a0c x) fd d n til S P Q G)] w fun e w'=>DoR w B Y e w':=by
 obtain⟨w1,w0,N,M,y,HN,H0,f,D,J⟩:=a2s 11 11 rfl (by omega) h l R hg p x hp hx fd d n til S P Q G (a2o hq rfl);have U:=qh r;have HX:=qh (aI l R);obtain⟨Z,V,H,I,T,F,X,K,O⟩:=a0A D.out.2;clear h l R hp hx hg r hq;unfold a0b at J;try unfold a0b at U
 go_enter Tryz.func37,Tryz.ntmps37;go_upto_region 1 with fail
 have b:=qh y.out;unfold rpZ a0b at b;unfold a0b;rw[<-b.out.2,<-b.out.1,<-HN.out.1,<-HN.out.2];clear b y;go_wp2_with fail;refine J.out.mono ?_;rintro e w2 ⟨⟨v,rfl,hO⟩,hb2⟩;clear J Z V H I T F X K O;obtain⟨g,cap,a,m,E,rfl,a0,hS⟩:=hO.head;simp only[AA,Ay,AD];obtain⟨wd,j⟩:=qnm w2.drew;have k:Below w2.heap.size w2 wd:=by rw[j];exact(Ab _ _).drew
 obtain⟨⟨Z,V,H,I,T,F,X,K,O⟩,c0,c1,c2,o,u,HF⟩:=a2t HX.out.1 H0.out f.out D.out hb2 k;have z:=qh (U.out wd a m E o u (hS.below k));clear U hO o u hb2 k hS;go_upto_region 28 with fail
 refine a0K 5 (by kernel_rfl) (by kernel_rfl) rfl ?_;simp only[qtc,a3E];repeat still_step
 refine AK ?_;rw[<-j];clear j;go_wp2_with fail;refine z.out.mono ?_;rintro e w3 ⟨er,nr,a1,n1,k1,a2,n2,k2,nd,rfl,A,c⟩;have i:=c.2 N _ _ HF.out.2.2.2;have HG:=qh (aI A (HF.out.1.trans c));clear A c z Z V H I T F X K O c0 c1 c2;unfold rpC at HG⊢;go_wp2_with (refine a0O 125 _ i ?_);exact a1B i ⟨_,w3,N,rfl,HG.out.1,HG.out.2,i,f.out.2.2.2.2.1,f.out.2.2.1,rfl⟩
theorem b4x(h:StIn w L B C s t sn fp σ)(l:C<=B)(R:B<=w.heap.size)(hg:Glob w)(p x:List UInt8)(hp:p.length<=1000000)(hx:x.length<=1000000)(q:List (List UInt8))(hq:a0g p=(q,0))
  (fd d n:Int) (til:Nat) (S:Int) (P:Option Addr) (Q G:Nat) (Y:Array Value->World->Prop) (r:∀(W:World) (a:Option Addr) (m E:Nat),StIn W L B C s t sn fp σ->B<=W.heap.size->Ss W a m E q->Calls Tryz.prog 90 #[.pointer (some ⟨s,0,none⟩),.agg (a0b 12 (a0c p) (a0c x) fd d n til S P Q G),.slice a m E] W fun e w'=>b77 B W Y e w'):
  Calls Tryz.prog 37 #[.pointer (some ⟨s,0,none⟩),.agg (a0b 12 (a0c p) (a0c x) fd d n til S P Q G)] w fun e w'=>DoR w B Y e w':=by
 obtain⟨w1,w0,N,M,y,HN,H0,f,D,J⟩:=a2s 12 12 rfl (by omega) h l R hg p x hp hx fd d n til S P Q G (a2o hq rfl);have U:=qh r;have HX:=qh (aI l R);obtain⟨Z,V,H,I,T,F,X,K,O⟩:=a0A D.out.2;clear h l R hp hx hg r hq;unfold a0b at J;try unfold a0b at U
 go_enter Tryz.func37,Tryz.ntmps37;go_upto_region 1 with fail
 have b:=qh y.out;unfold rpZ a0b at b;unfold a0b;rw[<-b.out.2,<-b.out.1,<-HN.out.1,<-HN.out.2];clear b y;go_wp2_with fail;refine J.out.mono ?_;rintro e w2 ⟨⟨v,rfl,hO⟩,hb2⟩;clear J Z V H I T F X K O;obtain⟨g,cap,a,m,E,rfl,a0,hS⟩:=hO.head;simp only[AA,Ay,AD];obtain⟨wd,j⟩:=qnm w2.drew;have k:Below w2.heap.size w2 wd:=by rw[j];exact(Ab _ _).drew
 obtain⟨⟨Z,V,H,I,T,F,X,K,O⟩,c0,c1,c2,o,u,HF⟩:=a2t HX.out.1 H0.out f.out D.out hb2 k;have z:=qh (U.out wd a m E o u (hS.below k));clear U hO o u hb2 k hS;go_upto_region 28 with fail
 refine a0K 5 (by kernel_rfl) (by kernel_rfl) rfl ?_;simp only[qtc,a3E];repeat still_step
 refine AK ?_;rw[<-j];clear j;go_wp2_with fail;refine z.out.mono ?_;rintro e w3 ⟨er,nr,a1,n1,k1,a2,n2,k2,nd,rfl,A,c⟩;have i:=c.2 N _ _ HF.out.2.2.2;have HG:=qh (aI A (HF.out.1.trans c));clear A c z Z V H I T F X K O c0 c1 c2;unfold rpC at HG⊢;go_wp2_with (refine a0O 125 _ i ?_);exact a1B i ⟨_,w3,N,rfl,HG.out.1,HG.out.2,i,f.out.2.2.2.2.1,f.out.2.2.1,rfl⟩
theorem b7Y(h:StIn w L B C s t sn fp σ)(l:C<=B)(T:B<=w.heap.size)(hg:Glob w)(p x:List UInt8)(hp:p.length<=1000000)(hx:x.length<=1000000)(q:List (List UInt8))(hq:a0g p=(q,0))
  (fd A n:Int) (til:Nat) (sp:Int) (da:Option Addr) (dl dc:Nat) (Y:Array Value->World->Prop) (u:∀(W:World) (a:Option Addr) (m I:Nat),StIn W L B C s t sn fp σ->B<=W.heap.size->Ss W a m I q->Calls Tryz.prog 91 #[.pointer (some ⟨s,0,none⟩),.slice a m I,.int .u64 (til:Int)] W fun e w'=>b68 B W Y e w') (hY:a40 B Y):
  Calls Tryz.prog 37 #[.pointer (some ⟨s,0,none⟩),.agg (a0b 13 (a0c p) (a0c x) fd A n til sp da dl dc)] w fun e w'=>DoR w B Y e w':=by
 obtain⟨w1,w0,N,M,z,HN,H0,f,G,P⟩:=a2s 13 13 rfl (by omega) h l T hg p x hp hx fd A n til sp da dl dc (a2o hq rfl);have V:=qh u;have HY:=qh hY;have HX:=qh (aI l T);obtain⟨o0,X,K,O,U,J,Z,Q,R⟩:=a0A G.out.2;clear h l T hp hx hg u hY hq;unfold a0b at P;try unfold a0b at V
 go_enter Tryz.func37,Tryz.ntmps37;go_upto_region 1 with fail
 have b:=qh z.out;unfold rpZ a0b at b;unfold a0b;rw[<-b.out.2,<-b.out.1,<-HN.out.1,<-HN.out.2];clear b z;go_wp2_with fail;refine P.out.mono ?_;rintro e w2 ⟨⟨v,rfl,hO⟩,hb2⟩;clear P o0 X K O U J Z Q R;obtain⟨g,cap,a,m,I,rfl,a1,hS⟩:=hO.head;simp only[AA,Ay,AD];obtain⟨wd,i⟩:=qnm w2.drew;have j:Below w2.heap.size w2 wd:=by rw[i];exact(Ab _ _).drew
 obtain⟨⟨o0,X,K,O,U,J,Z,Q,R⟩,c0,c1,c2,r,y,HF⟩:=a2t HX.out.1 H0.out f.out G.out hb2 j;have D:=qh (V.out wd a m I r y (hS.below j));clear V hO r y hb2 j hS;go_upto_region 30 with fail
 refine a0K 6 (by kernel_rfl) (by kernel_rfl) rfl ?_;simp only[qtc,a3E];repeat still_step
 refine AK ?_;rw[<-i];clear i;go_wp2_with fail;refine D.out.mono ?_;rintro e w3 ⟨S,rfl,F,c⟩;have E:=c.2 N _ _ HF.out.2.2.2;have a0:=qh (a1G S w3);have H:=qh (aI F (aI (HF.out.1.trans c) E));clear F c E D o0 X K O U J Z Q R c0 c1 c2;go_wp2_with fail;refine a0.out.mono ?_;rintro e w4 ⟨rfl,hb4⟩;have k:=Ad HX.out.2 H.out.2.1.size;have d:=(hb4.block N (ltH H.out.2.2)).trans H.out.2.2;have o:=qh (aI (HY.out _ _ _ k hb4 H.out.1) (H.out.2.1.trans (Fr.of hb4 k)));clear hb4 k;unfold noC at o⊢;go_wp2_with (refine a0O 135 _ d ?_);exact a1B d ⟨_,w4,N,rfl,o.out.1,o.out.2,d,f.out.2.2.2.2.1,f.out.2.2.1,rfl⟩
theorem b4z(h:StIn w L B C s t sn fp σ)(i:C<=B)(P:B<=w.heap.size)(hg:Glob w)(p x:List UInt8)(hp:p.length<=1000000)(hx:x.length<=1000000)
  (fd q n:Int) (til:Nat) (O:Int) (da:Option Addr) (dl X:Nat) (Y:Array Value->World->Prop) (l:∀(W:World),StIn W L B C s t sn fp σ->B<=W.heap.size->Calls Tryz.prog 93 #[.pointer (some ⟨sn,0,none⟩),.int .i64 O,.int .u64 (σ.now:Int)] W fun e w'=>b68 B W Y e w') (hY:a40 B Y):
  Calls Tryz.prog 37 #[.pointer (some ⟨s,0,none⟩),.agg (a0b 15 (a0c p) (a0c x) fd q n til O da dl X)] w fun e w'=>DoR w B Y e w':=by
 obtain⟨w1,w0,N,M,o,HN,H0,d,A,H⟩:=a2s 15 15 rfl (by omega) h i P hg p x hp hx fd q n til O da dl X (PT:=([],0)) rfl;have R:=qh l;have HY:=qh hY;have HX:=qh (aI i P);obtain⟨V,S,F,G,Q,E,T,I,J⟩:=a0A A.out.2;clear h i P hp hx hg l hY;unfold a0b at H;try unfold a0b at R
 go_enter Tryz.func37,Tryz.ntmps37;go_upto_region 1 with fail
 have a:=qh o.out;unfold rpZ a0b at a;unfold a0b;rw[<-a.out.2,<-a.out.1,<-HN.out.1,<-HN.out.2];clear a o;go_wp2_with fail;refine H.out.mono ?_;rintro e w2 ⟨⟨v,rfl,hO⟩,hb2⟩;clear H V S F G Q E T I J;obtain⟨pa,pc,rfl⟩:=hO.none;obtain⟨wd,f⟩:=qnm w2.drew;have z:Below w2.heap.size w2 wd:=by rw[f];exact(Ab _ _).drew
 obtain⟨⟨V,S,F,G,Q,E,T,I,J⟩,c0,c1,c2,k,m,Z⟩:=a2t HX.out.1 H0.out d.out A.out hb2 z;have r:=qh (R.out wd k m);clear R hO k m hb2 z;go_upto_region 35 with fail
 refine a0K 10 (by kernel_rfl) (by kernel_rfl) rfl ?_;simp only[qtc,a3E];repeat still_step
 refine AK ?_;rw[<-f];clear f;go_wp2_with fail;refine r.out.mono ?_;rintro e w3 ⟨K,rfl,y,b⟩;have u:=b.2 N _ _ Z.out.2.2.2;have U:=qh (a1G K w3);have D:=qh (aI y (aI (Z.out.1.trans b) u));clear y b u r V S F G Q E T I J c0 c1 c2;go_wp2_with fail;refine U.out.mono ?_;rintro e w4 ⟨rfl,hb4⟩;have g:=Ad HX.out.2 D.out.2.1.size;have c:=(hb4.block N (ltH D.out.2.2)).trans D.out.2.2;have j:=qh (aI (HY.out _ _ _ g hb4 D.out.1) (D.out.2.1.trans (Fr.of hb4 g)));clear hb4 g;unfold noC at j⊢;go_wp2_with (refine a0O 166 _ c ?_);exact a1B c ⟨_,w4,N,rfl,j.out.1,j.out.2,c,d.out.2.2.2.2.1,d.out.2.2.1,rfl⟩
theorem b7T(h:StIn w L B C s t sn fp σ)(d:C<=B)(r:B<=w.heap.size)(I:Glob w)(p x:List UInt8)(E:p.length<=1000000)(U:x.length<=1000000)
  (fd g n:Int) (til:Nat) (K:Int) (G:Option Addr) (J y:Nat):
  Calls Tryz.prog 37 #[.pointer (some ⟨s,0,none⟩),.agg (a0b 17 (a0c p) (a0c x) fd g n til K G J y)] w fun e w'=>DoR w B (fun R w'=>R=noC 0 0/\StIn w' L B C s t sn fp σ) e w':=by
 obtain⟨w1,w0,N,M,f,T,V,b,k,m⟩:=a2s 17 17 rfl (by omega) h d r I p x E U fd g n til K G J y (PT:=([],0)) rfl;have X:=qh trivial;have W:=qh (aI d r);obtain⟨S,P,z,A,O,u,Q,D,F⟩:=a0A k.out.2;clear h d r E U I;unfold a0b at m;try unfold a0b at X
 go_enter Tryz.func37,Tryz.ntmps37;go_upto_region 1 with fail
 have a:=qh f.out;unfold rpZ a0b at a;unfold a0b;rw[<-a.out.2,<-a.out.1,<-T.out.1,<-T.out.2];clear a f;go_wp2_with fail;refine m.out.mono ?_;rintro e w2 ⟨⟨v,rfl,H⟩,hb2⟩;clear m S P z A O u Q D F;obtain⟨Y,Z,rfl⟩:=H.none;obtain⟨wd,i⟩:=qnm w2;have j:Below w2.heap.size w2 wd:=by rw[i];exact Ab _ _
 obtain⟨⟨S,P,z,A,O,u,Q,D,F⟩,c0,c1,c2,l,o,q⟩:=a2t W.out.1 V.out b.out k.out hb2 j;clear H l o hb2 j;subst i;have c:=q.out.2.2.2;go_wp2_with (refine a0O 179 (noC 0 0) c ?_);exact a1B c ⟨_,wd,N,rfl,⟨rfl,q.out.2.1⟩,q.out.1,c,b.out.2.2.2.2.1,b.out.2.2.1,rfl⟩
def YX(L B C s t sn:Nat)(σ:StM)(a:Array Value)(R:Array Value)(w:World):Prop:=R=a/\∃fp,StIn w L B C s t sn fp σ
theorem YX.bears{c:Array Value}(a:C<=B):a40 B (YX L B C s t sn σ c):=fun _ _ _ f b ⟨d,fp,e⟩=>⟨d,fp,e.below (Ad a f) b⟩
theorem DoR.exact{f:Array Value}{e:Ending}(h:DoR w B (YX L B C s t sn σ f) e w')(c:L<=B)(b:C<=B):e= .returned (.agg f)/\(∃d,StIn w' L B C s t sn d σ)/\Fr B w w':=by
 obtain⟨R,k,N,rfl,⟨rfl,fp,i⟩,hF,j,a,g,rfl⟩:=h;exact⟨rfl,⟨_,i.setReply c b a j⟩,hF.setRow a g _⟩
end
end Go.Proofs.YtbemfdcjieakdaaGreatDoor
