/- StDo2; StDo3; StDoAll; VDoQ. -/
import Derived.Test.YtbemfdcjieakdaaGreatDoorK46
set_option maxRecDepth 100000
set_option maxHeartbeats 8000000
namespace Go.Proofs.YtbemfdcjieakdaaGreatDoor
section
open Go.RowKit Go.ChangeMaps Go.MapKept
set_option linter.unusedVariables false
variable {w w' : World} {L B C s t sn c : Nat} {fp : Nat → Option Nat} {σ : StM}
def YL(L s c:Nat)(R:Array Value)(w:World):Prop:=
 ∃(a:StM) (er:Nat) (e:Int) (h:Option Addr) (d g:Nat) (f:Option Addr) (b i:Nat) (nd:Nd),R=rpC (er:Int) e (.slice h d g) (.slice f b i) nd/\(er≠0->e=0/\d=0/\b=0)/\StAt w L L w.heap.size s a/\SGd (c+1) a
theorem YL.bears:a40 B (YL L s c):=fun _ _ _ _ k ⟨a,er,h,g,i,d,b,e,j,nd,l,m,h3,f⟩=>⟨a,er,h,g,i,d,b,e,j,nd,l,m,h3.chg2 k,f⟩
theorem DoR.loose{e:Ending}(h:DoR w B (YL L s c) e w'):SRep w L B s c e w':=by
 obtain⟨R,q,N,rfl,⟨d,er,n,m,o,k,j,l,p,nd,rfl,i,h3,b⟩,hF,g,a,f,rfl⟩:=h;exact a9q h3 b hF g a f i
theorem SRep.rep{e:Ending}(h:SRep w L B s c e w'):b77 B w (YL L s c) e w':=by
 obtain⟨a,er,k,g,i,d,b,f,j,nd,rfl,m,n,l,hF⟩:=h;exact⟨er,k,g,i,d,b,f,j,nd,rfl,⟨a,er,k,g,i,d,b,f,j,nd,rfl,m,n,l⟩,hF⟩
theorem SErr.err{e:Ending}(h:SErr w L B s c e w'):b68 B w (YL L s c) e w':=by
 obtain⟨a,b,rfl,d,f,hF⟩:=h;exact⟨a,rfl,⟨b,a,0,none,0,0,none,0,0,a0z,rfl,fun _=>⟨rfl,rfl,rfl⟩,d,f⟩,hF⟩
theorem b2q(h:StIn w L B C s t sn fp σ)(j:SGd c σ)(l:c<=60000)(d:L<=B)(g:C<=B)(D:B<=w.heap.size)(A:Glob w)(p x:List UInt8)(y:p.length<=1000000)(I:x.length<=1000000)(q:List (List UInt8))(i:a0g p=(q,0))(fd f n:Int)(til:Nat)(v:Int)(r:Option Addr)(u o:Nat):
  Calls Tryz.prog 37 #[.pointer (some ⟨s,0,none⟩),.agg (a0b 1 (a0c p) (a0c x) fd f n til v r u o)] w fun e w'=>SRep w L B s c e w':=by
 have z:=(a0r i).2;exact(a9s h g D A p x y I q i fd f n til v r u o (YL L s c) (fun _ a m H F k b=>((show Calls _ _ _ _ (fun e w'=>SRep _ L B s c e w') from by
  refine(a7F F j.tr.1 l d g k a m H q b z (by have:=b.1;have:=(a0r i).1;omega)).mono ?_;rintro e w' ⟨rfl,⟨E,G⟩,hF⟩;exact⟨(a1n c σ q).1,(a1n c σ q).2.1,_,none,0,0,none,0,0,a0z,rfl,fun e=>⟨(a5l j l q).2 e,rfl,rfl⟩,StAt.of G d,(a5l j l q).1,hF⟩)).mono fun _ _ h=>h.rep)).mono fun _ _ h=>h.loose
theorem b6t(h:StIn w L B C s t sn fp σ)(u:SGd c σ)(D:c<=60000)(i:L<=B)(d:C<=B)(A:B<=w.heap.size)(z:Glob w)(p x:List UInt8)(v:p.length<=1000000)(G:x.length<=1000000)(q:List (List UInt8))(r:a0g p=(q,0))(fd b n:Int)(til:Nat)(g:Int)(l:Option Addr)(o k:Nat):
  Calls Tryz.prog 37 #[.pointer (some ⟨s,0,none⟩),.agg (a0b 3 (a0c p) (a0c x) fd b n til g l o k)] w fun e w'=>SRep w L B s c e w':=by
 have y:=(a0r r).2;exact(b7V h d A z p x v G q r fd b n til g l o k (YL L s c) (fun _ a m F E j f=>(b1F E u D i d j a m F q f y g).mono fun _ _ h=>h.rep)).mono fun _ _ h=>h.loose
theorem b6s(h:StIn w L B C s t sn fp σ)(m:SGd c σ)(v:c<=60000)(k:L<=B)(a:C<=B)(q:B<=w.heap.size)(r:Glob w)(p x:List UInt8)(u:p.length<=1000000)(o:x.length<=1000000)(fd b n:Int)(til:Nat)(f:Int)(g:Option Addr)(j i:Nat):
  Calls Tryz.prog 37 #[.pointer (some ⟨s,0,none⟩),.agg (a0b 4 (a0c p) (a0c x) fd b n til f g j i)] w fun e w'=>SRep w L B s c e w':=by
 exact(b7U h a q r p x u o fd b n til f g j i (YL L s c) (fun _ l d=>((b1E l m a d 4 (a0c p) (a0c x) fd b n til f g j i).mono (fun _ _ h=>h.rep l m k a d)).mono fun _ _ h=>h.rep)).mono fun _ _ h=>h.loose
theorem b4w(h:StIn w L B C s t sn fp σ)(g:SGd c σ)(F:c<=60000)(b:L<=B)(d:C<=B)(v:B<=w.heap.size)(u:Glob w)(p x:List UInt8)(q:p.length<=1000000)(D:x.length<=1000000)(fd a n:Int)(til:Nat)(k:Int)(j:Option Addr)(l f:Nat):
  Calls Tryz.prog 37 #[.pointer (some ⟨s,0,none⟩),.agg (a0b 6 (a0c p) (a0c x) fd a n til k j l f)] w fun e w'=>SRep w L B s c e w':=by
 exact(b1o h d v u p x q D fd a n til k j l f (YL L s c) (fun _ z m=>((show Calls _ _ _ _ (fun e w'=>SErr _ L B s c e w') from by
  refine(a9x z g.tr.1 (fun i o r E=>(g.fd i o r E).1) b d m 6 (a0c p) (a0c x) fd a n til k j l f).mono ?_;rintro e w' ⟨rfl,⟨y,A⟩,hF⟩;exact⟨_,_,rfl,StAt.of A b,a9y g fd til,hF⟩)).mono fun _ _ h=>h.err) YL.bears).mono fun _ _ h=>h.loose
theorem b6v(h:StIn w L B C s t sn fp σ)(y:SGd c σ)(Q:c<=60000)(o:L<=B)(g:C<=B)(N:B<=w.heap.size)(M:Glob w)(p x:List UInt8)(I:p.length<=1000000)(R:x.length<=1000000)(q:List (List UInt8))(j:a0g p=(q,0))(l:List (List UInt8))(d:a0g x=(l,0))(fd i n:Int)(til:Nat)(D:Int)(z:Option Addr)(A v:Nat):
  Calls Tryz.prog 37 #[.pointer (some ⟨s,0,none⟩),.agg (a0b 7 (a0c p) (a0c x) fd i n til D z A v)] w fun e w'=>SRep w L B s c e w':=by
 have K:=(a0r j).2;have k:=(a0r d).2;exact(b7X h g N M p x I R q j l d fd i n til D z A v (YL L s c) (fun _ a m P J H u E r f b=>((show Calls _ _ _ _ (fun e w'=>SErr _ L B s c e w') from by
  obtain⟨mb,F,G,O⟩:=E.tree;exact(b2Z O y.tr Q a m P q f K (by have:=f.1;have:=(a0r j).1;omega) J H u l b k (by have:=b.1;have:=(a0r d).1;omega)).mono (fun _ _ h=>h.serr E y o g r))).mono fun _ _ h=>h.err) YL.bears).mono fun _ _ h=>h.loose
theorem b2n(h:StIn w L B C s t sn fp σ)(u:SGd c σ)(D:c<=60000)(g:L<=B)(f:C<=B)(A:B<=w.heap.size)(z:Glob w)(p x:List UInt8)(v:p.length<=1000000)(G:x.length<=1000000)(q:List (List UInt8))(j:a0g p=(q,0))(fd d n:Int)(til:Nat)(r:Int)(l:Option Addr)(o k:Nat):
  Calls Tryz.prog 37 #[.pointer (some ⟨s,0,none⟩),.agg (a0b 8 (a0c p) (a0c x) fd d n til r l o k)] w fun e w'=>SRep w L B s c e w':=by
 have y:=(a0r j).2;exact(a9r h f A z p x v G q j fd d n til r l o k (YL L s c) (fun _ a m F E i b=>(a8J E u D g f i a m F q b y (by have:=b.1;have:=(a0r j).1;omega)).mono fun _ _ h=>h.err) YL.bears).mono fun _ _ h=>h.loose
theorem b4u(h:StIn w L B C s t sn fp σ)(l:SGd c σ)(H:c<=60000)(g:L<=B)(f:C<=B)(D:B<=w.heap.size)(A:Glob w)(p x:List UInt8)(y:p.length<=1000000)(J:x.length<=1000000)(q:List (List UInt8))(j:a0g p=(q,0))(fd d n:Int)(til:Nat)(u:Int)(o:Option Addr)(r k:Nat):
  Calls Tryz.prog 37 #[.pointer (some ⟨s,0,none⟩),.agg (a0b 9 (a0c p) (a0c x) fd d n til u o r k)] w fun e w'=>SRep w L B s c e w':=by
 have z:=(a0r j).2;exact(b6C h f D A p x y J q j fd d n til u o r k (YL L s c) (fun _ a m I v i b=>((show Calls _ _ _ _ (fun e w'=>SErr _ L B s c e w') from by
  obtain⟨mb,F,G,E⟩:=v.tree;exact(b1A E l.tr H a m I q b z (by have:=b.1;have:=(a0r j).1;omega)).mono (fun _ _ h=>h.serr v l g f i))).mono fun _ _ h=>h.err) YL.bears).mono fun _ _ h=>h.loose
theorem b2o(h:StIn w L B C s t sn fp σ)(y:SGd c σ)(Q:c<=60000)(o:L<=B)(g:C<=B)(N:B<=w.heap.size)(M:Glob w)(p x:List UInt8)(I:p.length<=1000000)(R:x.length<=1000000)(q:List (List UInt8))(j:a0g p=(q,0))(l:List (List UInt8))(d:a0g x=(l,0))(fd i n:Int)(til:Nat)(D:Int)(z:Option Addr)(A v:Nat):
  Calls Tryz.prog 37 #[.pointer (some ⟨s,0,none⟩),.agg (a0b 10 (a0c p) (a0c x) fd i n til D z A v)] w fun e w'=>SRep w L B s c e w':=by
 have K:=(a0r j).2;have k:=(a0r d).2;exact(b4y h g N M p x I R q j l d fd i n til D z A v (YL L s c) (fun _ a m P J H u E r f b=>((show Calls _ _ _ _ (fun e w'=>SErr _ L B s c e w') from by
  obtain⟨mb,F,G,O⟩:=E.tree;exact(a9M O y.tr Q a m P q f K (by have:=f.1;have:=(a0r j).1;omega) J H u l b k (by have:=b.1;have:=(a0r d).1;omega)).mono (fun _ _ h=>h.serr E y o g r))).mono fun _ _ h=>h.err) YL.bears).mono fun _ _ h=>h.loose
theorem b6u(h:StIn w L B C s t sn fp σ)(r:SGd c σ)(E:c<=60000)(f:L<=B)(d:C<=B)(D:B<=w.heap.size)(A:Glob w)(p x:List UInt8)(y:p.length<=1000000)(G:x.length<=1000000)(q:List (List UInt8))(v:a0g p=(q,0))(fd b n:Int)(til:Nat)(o:Int)(k:Option Addr)(l j:Nat):
  Calls Tryz.prog 37 #[.pointer (some ⟨s,0,none⟩),.agg (a0b 11 (a0c p) (a0c x) fd b n til o k l j)] w fun e w'=>SRep w L B s c e w':=by
 have z:=(a0r v).2;exact(b7W h d D A p x y G q v fd b n til o k l j (YL L s c) (fun _ a m F u g i=>((a68 u r E f d g 11 (a0c p) (a0c x) fd b n til o k l j a m F q i z).mono (fun _ _ h=>h.rep u r f d g)).mono fun _ _ h=>h.rep)).mono fun _ _ h=>h.loose
theorem b6r(h:StIn w L B C s t sn fp σ)(r:SGd c σ)(E:c<=60000)(f:L<=B)(d:C<=B)(D:B<=w.heap.size)(A:Glob w)(p x:List UInt8)(y:p.length<=1000000)(G:x.length<=1000000)(q:List (List UInt8))(v:a0g p=(q,0))(fd b n:Int)(til:Nat)(o:Int)(k:Option Addr)(l j:Nat):
  Calls Tryz.prog 37 #[.pointer (some ⟨s,0,none⟩),.agg (a0b 12 (a0c p) (a0c x) fd b n til o k l j)] w fun e w'=>SRep w L B s c e w':=by
 have z:=(a0r v).2;exact(b4x h d D A p x y G q v fd b n til o k l j (YL L s c) (fun _ a m F u g i=>((a68 u r E f d g 12 (a0c p) (a0c x) fd b n til o k l j a m F q i z).mono (fun _ _ h=>h.rep u r f d g)).mono fun _ _ h=>h.rep)).mono fun _ _ h=>h.loose
theorem b6w(h:StIn w L B C s t sn fp σ)(l:SGd c σ)(H:c<=60000)(g:L<=B)(d:C<=B)(A:B<=w.heap.size)(z:Glob w)(p x:List UInt8)(v:p.length<=1000000)(I:x.length<=1000000)(q:List (List UInt8))(k:a0g p=(q,0))(fd b n:Int)(til:Nat)(u:Int)(o:Option Addr)(r j:Nat):
  Calls Tryz.prog 37 #[.pointer (some ⟨s,0,none⟩),.agg (a0b 13 (a0c p) (a0c x) fd b n til u o r j)] w fun e w'=>SRep w L B s c e w':=by
 have y:=(a0r k).2;exact(b7Y h d A z p x v I q k fd b n til u o r j (YL L s c) (fun _ a m G E i f=>((show Calls _ _ _ _ (fun e w'=>SErr _ L B s c e w') from by
  refine(b1H E l.tr.1 H d i a m G q f y til).mono ?_;rintro e w' ⟨rfl,⟨D,F⟩,hF⟩;exact⟨_,_,rfl,StAt.of F g,b6c l q til,hF⟩)).mono fun _ _ h=>h.err) YL.bears).mono fun _ _ h=>h.loose
theorem b2p(h:StIn w L B C s t sn fp σ)(o:SGd c σ)(D:c<=60000)(b:L<=B)(g:C<=B)(z:B<=w.heap.size)(y:Glob w)(p x:List UInt8)(v:p.length<=1000000)(E:x.length<=1000000)(fd f n:Int)(til:Nat)(k:Int)(q:Option Addr)(r m:Nat):
  Calls Tryz.prog 37 #[.pointer (some ⟨s,0,none⟩),.agg (a0b 15 (a0c p) (a0c x) fd f n til k q r m)] w fun e w'=>SRep w L B s c e w':=by
 exact(b4z h g z y p x v E fd f n til k q r m (YL L s c) (fun _ u a=>((show Calls _ _ _ _ (fun e w'=>SErr _ L B s c e w') from by
  refine(b2i u.snaps b a (Ad g a) o.sn D k σ.now).mono ?_;rintro e w' ⟨i,S',rfl,l,d,A⟩;have j:=o.mono (As c);exact⟨i,_,rfl,⟨_,_,_,u.setSnaps b d A⟩,⟨j.tr,j.fd,l.mono (As c),j.now⟩,Fr.schg d a⟩)).mono fun _ _ h=>h.err) YL.bears).mono fun _ _ h=>h.loose
theorem b6q(h:StIn w L B C s t sn fp σ)(q:SGd c σ)(b:L<=B)(d:C<=B)(l:B<=w.heap.size)(o:Glob w)(p x:List UInt8)(r:p.length<=1000000)(k:x.length<=1000000)(fd a n:Int)(til:Nat)(f:Int)(g:Option Addr)(j i:Nat):
  Calls Tryz.prog 37 #[.pointer (some ⟨s,0,none⟩),.agg (a0b 17 (a0c p) (a0c x) fd a n til f g j i)] w fun e w'=>SRep w L B s c e w':=by
 refine(b7Q h b d l o p x r k fd a n til f g j i).mono ?_;rintro e w' ⟨rfl,⟨u,m⟩,hF⟩;exact⟨σ,0,0,none,0,0,none,0,0,a0z,rfl,fun e=>absurd rfl e,StAt.of m b,q.mono (As c),hF⟩
theorem b4t(h:StIn w L B C s t sn fp σ)(f:SGd c σ)(d:L<=B)(g:C<=B)(u:B<=w.heap.size)(A:Glob w)(p x:List UInt8)(D:p.length<=1000000)(q:x.length<=1000000)(fd b n:Int)(til:Nat)(m:Int)(k:Option Addr)(l j:Nat)(a:List UInt8)(y:Bs w k l j a):
  Calls Tryz.prog 37 #[.pointer (some ⟨s,0,none⟩),.agg (a0b 5 (a0c p) (a0c x) fd b n til m k l j)] w fun e w'=>SRep w L B s c e w':=by
 refine(b1n h f.tr.1 (fun i o E r=>(f.fd i o E r).1) d g u A p x D q fd b n til m k l j a y).mono ?_;rintro e w' ⟨rfl,⟨z,v⟩,hF⟩;exact⟨(a1D σ fd a).1,(a1D σ fd a).2.1,_,none,0,0,none,0,0,a0z,rfl,fun e=>⟨(a5S f fd a).2 e,rfl,rfl⟩,StAt.of v d,(a5S f fd a).1,hF⟩
end
section
open Go.RowKit Go.ChangeMaps Go.MapKept
variable {w w' : World} {L B C s t sn c : Nat} {fp : Nat → Option Nat} {σ : StM}
theorem b4v(h:StIn w L B C s t sn fp σ)(X:SGd c σ)(hc:c<=60000)(a1:L<=B)(j:C<=B)(hB:B<=w.heap.size)(hg:Glob w)(p x:List UInt8)(hp:p.length<=1000000)(hx:x.length<=1000000)(q:List (List UInt8))(hq:a0g p=(q,0))
  (fd a4 n:Int) (til:Nat) (sp:Int) (da:Option Addr) (dl dc:Nat):
  Calls Tryz.prog 37 #[.pointer (some ⟨s,0,none⟩),.agg (a0b 2 (a0c p) (a0c x) fd a4 n til sp da dl dc)] w fun e w'=>SRep w L B s c e w':=by
 obtain⟨a6,hm⟩:=a0r hq;obtain⟨w1,w0,N,M,a0,HN,H0,A,R,HP⟩:=a2s 2 2 rfl (by omega) h j hB hg p x hp hx fd a4 n til sp da dl dc (a2o hq rfl);have HC:=qh (fun(W:World) (a:Option Addr) (m I:Nat) (hW:StIn W L B C s t sn fp σ) (Q:B<=W.heap.size) (S:Ss W a m I q)=>(show Calls _ _ _ _ (fun e w'=>(∃id k:Nat,e= .returned (.tuple #[.int .i64 (id:Int),.int .i64 (k:Int)])/\∃Z E,StIn w' L B C s t sn Z E/\SGd (c+1) E/\Fr B W w')/\TChg B W w') from by
  obtain⟨mb,F,G,hT⟩:=hW.tree;refine(b08 hT X.tr.1 hc a m I q S hm (by have:=S.1;omega) 2 (.inr rfl)).mono ?_;rintro e w' ⟨rfl,⟨F',G',aa⟩,H⟩;have z:=X.mono (As c);exact⟨⟨_,_,rfl,fp,_,hW.setTree j Q H ⟨_,_,_,aa⟩,⟨X.tr.make q 2 (.inr rfl) hc,z.fd,z.sn,z.now⟩,Fr.tchg H Q⟩,H⟩))
 have HX:=qh (aI X (aI hc (aI a1 (aI j hB))));obtain⟨o0,o1,o2,o3,o4,o5,o6,o7,o8⟩:=a0A R.out.2;clear h X a1 j hB hp hx hg  hq hm a6;unfold a0b at HP;try unfold a0b at HC
 go_enter Tryz.func37,Tryz.ntmps37;go_upto_region 1 with fail
 have f:=qh a0.out;unfold rpZ a0b at f;unfold a0b;rw[<-f.out.2,<-f.out.1,<-HN.out.1,<-HN.out.2];clear f a0;go_wp2_with fail;refine HP.out.mono ?_;rintro e w2 ⟨⟨v,rfl,hO⟩,hb2⟩;clear HP o0 o1 o2 o3 o4 o5 o6 o7 o8;have a3:=hO.ty;obtain⟨g,cap,a,m,I,rfl,U,hS⟩:=hO.head;have P:=qh (a3 g rfl);clear a3;simp only[AA,Ay,AD];obtain⟨wd,d⟩:=qnm w2.drew;have y:Below w2.heap.size w2 wd:=by rw[d];exact(Ab _ _).drew
 obtain⟨⟨o0,o1,o2,o3,o4,o5,o6,o7,o8⟩,c0,c1,c2,O,V,HF⟩:=a2t HX.out.2.2.2.1 H0.out A.out R.out hb2 y;have T:=qh (HC.out wd a m I O V (hS.below y));clear HC hO O V hb2 y hS;go_upto_region 8 with fail
 refine a0h (fun i=>List.contains (List.range 12) i) (fun w'=>w'.cell? ⟨s,0,none⟩=some (.pointer (some ⟨t,0,none⟩))/\w'.cell? ⟨g,0,none⟩=some (.slice a m I)) (by kernel_rfl) ?_ (fun hHeld=>?_)
 ·exact⟨c0,U⟩
 refine qtk 0 33 ?_;refine qtk 1 34 ?_;refine qtk 2 35 ?_;refine qtk 3 36 ?_;refine qtk 4 37 ?_;refine qtk 5 38 ?_;refine qtk 6 39 ?_;refine qone 7 fun K hK=>?_
 go_simp;rw[<-d];refine T.out.mono ?_;rintro e w3 ⟨⟨id,k,rfl,Z,E,D,a2,r⟩,l⟩;have hHeld:(fun w':World=>w'.cell? ⟨s,0,none⟩=some (.pointer (some ⟨t,0,none⟩))/\w'.cell? ⟨g,0,none⟩=some (.slice a m I)) w3:=⟨a0a D.cel 0,(Cc (a:=⟨g,0,none⟩) (l.block g (by rw[d];exact ltH P.out.choose_spec.choose_spec) (fun⟨_,b⟩=>by
    obtain⟨C1,a8,a7⟩:=P.out;have o:wd.heap[g]? =some (.cells C1 TSS a8):=by rw[d];exact a7
    rcases b with⟨C2,ab,b⟩ | ⟨es,cl,b⟩
    ·rw[o] at b;injection b with b;injection b with _ b;exact absurd b (by decide)
    ·rw[o] at b;injection b with b;cases b))).trans (by rw[d];exact hHeld.2)⟩
 have Y:=r.2 N _ _ HF.out.2.2.2;have J:=qh (aI (StAt.of D HX.out.2.2.1) (aI a2 (aI (HF.out.1.trans r) Y)));clear D a2 r l T Y d;go_wp2_with fail;refine hK.out _ _ (fun _=>hHeld) ?_;clear hK K;refine qtk 8 32 ?_;refine qtk 9 41 ?_;refine qtk 10 42 ?_;refine qtk 11 7 ?_;refine qfr 12 8 ?_;refine qdon ?_;clear hHeld U;have a9:=qh (a1G k w3);clear o0 o1 o2 o3 o4 o5 o6 o7 o8 c0 c1 c2;go_wp2_with fail;refine a9.out.mono ?_;rintro e w4 ⟨rfl,hb4⟩;have u:=(hb4.block N (ltH J.out.2.2.2)).trans J.out.2.2.2;have a5:=qh (aI (J.out.1.chg2 hb4) (J.out.2.2.1.trans (Fr.of hb4 (Ad HX.out.2.2.2.2 J.out.2.2.1.size))));clear hb4;unfold noC;go_wp2_with (refine a0O 44 (noC (k:Int) 0) u ?_);exact a1B u (a9q (nd:=a0z) a5.out.1 J.out.2.1 a5.out.2 u A.out.2.2.2.2.1 A.out.2.2.1 (fun _=>⟨rfl,rfl,rfl⟩))
theorem b6p(h:StIn w L B C s t sn fp σ)(D:SGd c σ)(hc:c<=60000)(g:L<=B)(q:C<=B)(X:B<=w.heap.size)(hg:Glob w)(p x:List UInt8)(hp:p.length<=1000000)(hx:x.length<=1000000)
  (fd A n:Int) (til:Nat) (sp:Int) (da:Option Addr) (dl dc:Nat):
  Calls Tryz.prog 37 #[.pointer (some ⟨s,0,none⟩),.agg (a0b 14 (a0c p) (a0c x) fd A n til sp da dl dc)] w fun e w'=>SRep w L B s c e w':=by
 obtain⟨w1,w0,N,M,z,HN,H0,k,J,T⟩:=a2s 14 14 rfl (by omega) h q X hg p x hp hx fd A n til sp da dl dc (PT:=([],0)) rfl;have Z:=qh (fun(W:World) (hW:StIn W L B C s t sn fp σ) (G:B<=W.heap.size)=>(show Calls _ _ _ _ (fun e w'=>∃(r:Int) (a:Nat),e= .returned (.tuple #[.int .i64 r,.int .i64 (a:Int)])/\(a≠0->r=0)/\∃d,StIn w' L L w'.heap.size s t sn fp d/\SGd (c+1) d/\Fr B W w') from by
  refine(b5o hW.snaps g G hW.tree D.tr D.sn hc).mono ?_;rintro e w' ⟨r,a,S',rfl,O,a0,H,hS⟩;have o:=D.mono (As c);exact⟨r,a,rfl,O,_,hW.setSnaps g H hS,⟨o.tr,o.fd,a0,o.now⟩,Fr.schg H G⟩))
 have HX:=qh (aI D (aI hc (aI g (aI q X))));obtain⟨o0,o1,R,S,Y,Q,o6,U,V⟩:=a0A J.out.2;clear h D g q X hp hx hg;unfold a0b at T;try unfold a0b at Z
 go_enter Tryz.func37,Tryz.ntmps37;go_upto_region 1 with fail
 have f:=qh z.out;unfold rpZ a0b at f;unfold a0b;rw[<-f.out.2,<-f.out.1,<-HN.out.1,<-HN.out.2];clear f z;go_wp2_with fail;refine T.out.mono ?_;rintro e w2 ⟨⟨v,rfl,hO⟩,hb2⟩;clear T o0 o1 R S Y Q o6 U V;obtain⟨pa,pc,rfl⟩:=hO.none;obtain⟨wd,m⟩:=qnm w2.drew;have F:Below w2.heap.size w2 wd:=by rw[m];exact(Ab _ _).drew
 obtain⟨⟨o0,o1,R,S,Y,Q,o6,U,V⟩,c0,c1,c2,u,y,HF⟩:=a2t HX.out.2.2.2.1 H0.out k.out J.out hb2 F;have E:=qh (Z.out wd u y);clear Z hO u y hb2 F;go_upto_region 32 with fail
 refine a0h (fun i=>List.contains (List.range 13) i) (fun w'=>w'.cell? ⟨s,0,none⟩=some (.pointer (some ⟨t,0,none⟩))/\w'.cell? ⟨s,1,none⟩=some (.pointer (some ⟨sn,0,none⟩))) (by kernel_rfl) ?_ (fun hHeld=>?_)
 ·exact⟨c0,c1⟩
 refine qtk 0 139 ?_;refine qtk 1 140 ?_;refine qtk 2 141 ?_;refine qtk 3 142 ?_;refine qtk 4 143 ?_;refine qtk 5 144 ?_;refine qtk 6 145 ?_;refine qtk 7 146 ?_;refine qone 8 fun K hK=>?_
 go_simp;rw[<-m];refine E.out.mono ?_;rintro e w3 ⟨r,a,rfl,O,d,b,I,j⟩;have hHeld:(fun w':World=>w'.cell? ⟨s,0,none⟩=some (.pointer (some ⟨t,0,none⟩))/\w'.cell? ⟨s,1,none⟩=some (.pointer (some ⟨sn,0,none⟩))) w3:=⟨a0a b.cel 0,a0a b.cel 1⟩
 have l:=j.2 N _ _ HF.out.2.2.2;have P:=qh (aI (show StAt w3 L L w3.heap.size s d from⟨_,_,_,b⟩) (aI I (aI (HF.out.1.trans j) O)));clear b I j E m O;go_wp2_with fail;refine hK.out _ _ (fun _=>hHeld) ?_;clear hK K;refine qtk 9 138 ?_;refine qtk 10 148 ?_;refine qtk 11 149 ?_;refine qtk 12 9 ?_;refine qfr 13 10 ?_;refine qdon ?_;clear hHeld;clear o0 o1 R S Y Q o6 U V c0 c1 c2;go_wp2_with (refine a0O 152 (noC (a:Int) r) l ?_);exact a1B l (a9q (nd:=a0z) P.out.1 P.out.2.1 P.out.2.2.1 l k.out.2.2.2.2.1 k.out.2.2.1 (fun e=>⟨P.out.2.2.2 e,rfl,rfl⟩))
theorem b6o(h:StIn w L B C s t sn fp σ)(gd:SGd c σ)(hc:c<=60000)(G:L<=B)(o:C<=B)(hB:B<=w.heap.size)(hg:Glob w)(p x:List UInt8)(hp:p.length<=1000000)(hx:x.length<=1000000)
  (fd A n:Int) (til:Nat) (sp:Int) (da:Option Addr) (dl dc:Nat):
  Calls Tryz.prog 37 #[.pointer (some ⟨s,0,none⟩),.agg (a0b 16 (a0c p) (a0c x) fd A n til sp da dl dc)] w fun e w'=>SRep w L B s c e w':=by
 obtain⟨w1,w0,N,M,z,HN,H0,k,I,V⟩:=a2s 16 16 rfl (by omega) h o hB hg p x hp hx fd A n til sp da dl dc (PT:=([],0)) rfl;have HC:=qh (fun(W:World) (hW:StIn W L B C s t sn fp σ) (a1:B<=W.heap.size)=>b5U σ.now til W);have HX:=qh (aI gd (aI hc (aI G (aI o hB))));obtain⟨o0,o1,R,U,o4,Q,P,X,Z⟩:=a0A I.out.2;clear h gd G o hB hp hx hg;unfold a0b at V;try unfold a0b at HC
 go_enter Tryz.func37,Tryz.ntmps37;go_upto_region 1 with fail
 have f:=qh z.out;unfold rpZ a0b at f;unfold a0b;rw[<-f.out.2,<-f.out.1,<-HN.out.1,<-HN.out.2];clear f z;go_wp2_with fail;refine V.out.mono ?_;rintro e w2 ⟨⟨v,rfl,hO⟩,hb2⟩;clear V o0 o1 R U o4 Q P X Z;obtain⟨pa,pc,rfl⟩:=hO.none;obtain⟨wd,l⟩:=qnm w2.drew;have H:Below w2.heap.size w2 wd:=by rw[l];exact(Ab _ _).drew
 obtain⟨⟨o0,o1,R,U,o4,Q,P,X,Z⟩,c0,c1,c2,r,y,q⟩:=a2t HX.out.2.2.2.1 H0.out k.out I.out hb2 H;have F:=qh (HC.out wd r y);clear HC hO r y hb2 H;have a:=q.out.2.1.cel;have O:wd.cell? ⟨s,2,none⟩=some (.int .u64 (σ.now:Int)):=a0a a 2;have J:=a0e a 2;have g:=ltH a;have b:=q.out.2.2.2;have E:N≠s:=fun e=>by
  rw[e,a] at b;injection b with b;injection b with _ b;exact absurd b (by decide)
 obtain⟨D,m⟩:=qnm (nextN σ.now til);rw[<-m] at F;have d:(wd.setCell ⟨s,2,none⟩ (.int .u64 (D:Int))).heap[N]? =some (.cells rpZ TReply (0,0)):=(A5 _ _ _ _ E).trans b;have u:SGd (c+1) ⟨σ.T,σ.S,D,σ.fds⟩:=by
  have j:=HX.out.1.mono (As c);refine⟨j.tr,j.fd,j.sn,?_⟩;show D<=MTn;rw[m];unfold nextN;have:=j.now;split <;>omega
 have HG:=qh (aI (q.out.2.1.setNow HX.out.2.2.1 D) (aI u (q.out.1.setCell (i:=2) q.out.2.1.sge q.out.2.1.cel (.int .u64 (D:Int)))));have Y:=qh d;have a0:=qh (aI O (aI J g));clear a b E u m O J g d;go_upto_region 37 with fail
 refine a0h (fun i=>List.contains (List.range 8) i) (fun w'=>w'.cell? ⟨s,2,none⟩=some (.int .u64 (σ.now:Int))/\w'.cell? ⟨M,6,none⟩=some (.int .u64 (til:Int))) (by kernel_rfl) ?_ (fun hHeld=>?_)
 ·exact⟨c2,P⟩
 rw[<-l] at hHeld⊢;clear l;refine qtk 0 169 ?_;refine qtk 1 170 ?_;refine qtk 2 171 ?_;refine qtk 3 172 ?_;refine qtk 4 173 ?_;refine qtk 5 174 ?_;refine qtk 6 175 ?_;refine qone 7 fun K hK=>?_
 go_simp;refine F.out.mono ?_;rintro e w3 ⟨rfl,rfl⟩;go_wp2_with fail;refine hK.out _ _ (fun _=>hHeld) ?_;clear hK K;refine qfr 8 177 ?_;refine qfr 9 178 ?_;refine qone 10 fun K hK=>?_
 obtain⟨O,J,g⟩:=a0.out;go_simp;refine hK.out _ _ (fun h=>by simp at h) ?_;clear hK K;refine qdon ?_;clear hHeld O J g;have d:=Y.out;clear o0 o1 R U o4 Q P X Z c0 c1 c2;go_wp2_with (refine a0O 179 (noC 0 0) d ?_);exact a1B d (a9q (er:=0) (nd:=a0z) HG.out.1 HG.out.2.1 HG.out.2.2 d k.out.2.2.2.2.1 k.out.2.2.1 (fun e=>absurd rfl e))
theorem b60(h:StIn w L B C s t sn fp σ)(I:SGd c σ)(m:L<=B)(j:C<=B)(F:B<=w.heap.size)(k:Int)(p x:List UInt8)(fd i n:Int)(til:Nat)(E:Int)(A:Option Addr)(D z:Nat)(b:Nat)(Y:b≠0)
  (q:∀W,Below w.heap.size w W->Calls Tryz.prog 78 #[.pointer (some ⟨s,0,none⟩),.agg (a0b k (a0c p) (a0c x) fd i n til E A D z)] W fun e w'=>(∃v,e= .returned (.tuple #[v,.int .i64 (b:Int)]))/\Below W.heap.size W w'):
  Calls Tryz.prog 37 #[.pointer (some ⟨s,0,none⟩),.agg (a0b k (a0c p) (a0c x) fd i n til E A D z)] w fun e w'=>SRep w L B s c e w'/\e= .returned (.agg (noC (b:Int) 0)):=by
 obtain⟨w1,Z,N,M,l,J,K,a,r,hb0⟩:=b4r k h j F (a0c p) (a0c x) fd i n til E A D z;have H:=qh (q Z hb0);have o:=qh (aI I (aI m (aI j F)));obtain⟨o0,V,P,Q,U,O,X,R,S⟩:=a0A r.out.2;have T:¬(b:Int)=0:=by omega
 clear h I m j F hb0 q;unfold a0b at H;go_enter Tryz.func37,Tryz.ntmps37;go_upto_region 1 with fail
 have d:=qh l.out;unfold rpZ a0b at d;unfold a0b;rw[<-d.out.2,<-d.out.1,<-J.out.1,<-J.out.2];clear d l;go_wp2_with fail;refine H.out.mono ?_;rintro e w2 ⟨⟨v,rfl⟩,hb2⟩;have G:=qh (a1G b w2);have u:=qh (aI (a.out.1.trans (Fr.of hb2 a.out.2.1)) (aI ((hb2.block N a.out.2.2.2.1).trans r.out.1) (K.out.below (Ad o.out.2.2.1 a.out.2.1) hb2)));clear hb2 o0 V P Q U O X R S Y;go_wp2_with fail;refine G.out.mono ?_;rintro e w4 ⟨rfl,hb4⟩;have g:=(hb4.block N (ltH u.out.2.1)).trans u.out.2.1;have f:B<=w2.heap.size:=Ad o.out.2.2.2 u.out.1.size;have y:=qh (aI (StAt.of (u.out.2.2.below (Ad o.out.2.2.1 f) hb4) o.out.2.1) (u.out.1.trans (Fr.of hb4 f)));clear hb4 f;unfold noC;go_wp2_with (refine a0O 20 (noC (b:Int) 0) g ?_);exact a1B g ⟨a9q (nd:=a0z) y.out.1 (o.out.1.mono (As c)) y.out.2 g a.out.2.2.2.2.1 a.out.2.2.1 (fun _=>⟨rfl,rfl,rfl⟩),rfl⟩
theorem b3E(s:Nat)(k:Int)(hk:k<1∨17<k)(ps j:ByteArray)(fd b n:Int)(til:Nat)(h:Int)(g:Option Addr)(i d:Nat)(w:World):
  Calls Tryz.prog 78 #[.pointer (some ⟨s,0,none⟩),.agg (a0b k ps j fd b n til h g i d)] w fun e w'=>(∃v,e= .returned (.tuple #[v,.int .i64 ((30:Nat):Int)]))/\Below w.heap.size w w':=by
 obtain⟨m,a⟩:=qnm (w.alloc (.cells (a0b k ps j fd b n til h g i d) TOp));have c:m.heap[w.heap.size]? =some (.cells (a0b k ps j fd b n til h g i d) TOp (0,0)):=by rw[a];exact Ae w _
 have hb0:=qba a;have I:m.cell? ⟨w.heap.size,0,none⟩=some (.int .i64 k):=a0a c 0;have f:=qh a;have l:=qh hb0;have D:(k == 1)=false:=by rw[Al];omega
 have H:(k == 2)=false:=by rw[Al];omega
 have z:(k == 3)=false:=by rw[Al];omega
 have F:(k == 4)=false:=by rw[Al];omega
 have A:(k == 5)=false:=by rw[Al];omega
 have E:(k == 6)=false:=by rw[Al];omega
 have C:(k == 7)=false:=by rw[Al];omega
 have B:(k == 8)=false:=by rw[Al];omega
 have G:(k == 9)=false:=by rw[Al];omega
 have r:(k == 10)=false:=by rw[Al];omega
 have x:(k == 11)=false:=by rw[Al];omega
 have u:(k == 12)=false:=by rw[Al];omega
 have o:(k == 13)=false:=by rw[Al];omega
 have p:(k == 14)=false:=by rw[Al];omega
 have t:(k == 15)=false:=by rw[Al];omega
 have q:(k == 16)=false:=by rw[Al];omega
 have y:(k == 17)=false:=by rw[Al];omega
 clear c a hb0 hk;go_enter Tryz.func78,Tryz.ntmps78;go_upto_region 2 with fail
 rw[<-f.out];go_wp2_with fail;go_ret2;exact⟨⟨_,rfl⟩,l.out⟩
end
section
open Go.RowKit Go.ChangeMaps Go.MapKept
variable {w w' : World} {L B C s t sn c : Nat} {fp : Nat → Option Nat} {σ : StM}
theorem a4K{p:List UInt8}(h:(a0y [p]).2=0):∃q,a0g p=(q,0):=by
 have a:(a0g p).2=0:=by
  unfold a0y at h;by_cases e:(a0g p).2≠0
  ·rw[Ah e] at h;exact absurd h e
  ·omega
 exact⟨(a0g p).1,by rw[<-a]⟩
theorem b6V{p x:List UInt8}(h:(a0y [p,x]).2=0):(∃q,a0g p=(q,0))/\∃c,a0g x=(c,0):=by
 have a:(a0g p).2=0/\(a0y [x]).2=0:=by
  unfold a0y at h;by_cases e:(a0g p).2≠0
  ·rw[Ah e] at h;exact absurd h e
  ·rw[Ag e] at h;by_cases b:(a0y [x]).2≠0
   ·rw[Ah b] at h;exact absurd h b
   ·exact⟨by omega,by omega⟩
 exact⟨⟨(a0g p).1,by rw[<-a.1]⟩,a4K a.2⟩
theorem b8P(h:StIn w L B C s t sn fp σ)(m:SGd c σ)(z:c<=60000)(b:L<=B)(d:C<=B)(u:B<=w.heap.size)(r:Glob w)(k:Nat)(hk:1<=k/\k<=17)(p x:List UInt8)(o:p.length<=1000000)(y:x.length<=1000000)
  (fd a n:Int) (til:Nat) (j:Int) (g:Option Addr) (i f:Nat) (G:List UInt8) (J:Bs w g i f G):
  Calls Tryz.prog 37 #[.pointer (some ⟨s,0,none⟩),.agg (a0b (k:Int) (a0c p) (a0c x) fd a n til j g i f)] w fun e w'=>SRep w L B s c e w':=by
 by_cases A:(a0y (a3t k p x)).2≠0
 ·refine(b60 h m b d u (k:Int) p x fd a n til j g i f _ A (fun W H=>(a83 s k hk p x o y fd a n til j g i f W (r.below H)).mono (fun e w' ⟨⟨v,I,_⟩,hb2⟩=>⟨⟨v,I⟩,hb2⟩))).mono (fun e w' h=>h.1)
 have A:(a0y (a3t k p x)).2=0:=by omega
 obtain⟨K,M⟩:=hk;have E:k=1∨k=2∨k=3∨k=4∨k=5∨k=6∨k=7∨k=8∨k=9∨k=10∨k=11∨k=12∨k=13∨k=14∨k=15∨k=16∨k=17:=by omega
 rcases E with rfl | rfl | rfl | rfl | rfl | rfl | rfl | rfl | rfl | rfl | rfl | rfl | rfl | rfl | rfl | rfl | rfl
 ·obtain⟨q,l⟩:=a4K (p:=p) A;exact b2q h m z b d u r p x o y q l fd a n til j g i f
 ·obtain⟨q,l⟩:=a4K (p:=p) A;exact b4v h m z b d u r p x o y q l fd a n til j g i f
 ·obtain⟨q,l⟩:=a4K (p:=p) A;exact b6t h m z b d u r p x o y q l fd a n til j g i f
 ·exact b6s h m z b d u r p x o y fd a n til j g i f
 ·exact b4t h m b d u r p x o y fd a n til j g i f G J
 ·exact b4w h m z b d u r p x o y fd a n til j g i f
 ·obtain⟨⟨q,l⟩,F,D⟩:=b6V (p:=p) (x:=x) A;exact b6v h m z b d u r p x o y q l F D fd a n til j g i f
 ·obtain⟨q,l⟩:=a4K (p:=p) A;exact b2n h m z b d u r p x o y q l fd a n til j g i f
 ·obtain⟨q,l⟩:=a4K (p:=p) A;exact b4u h m z b d u r p x o y q l fd a n til j g i f
 ·obtain⟨⟨q,l⟩,F,D⟩:=b6V (p:=p) (x:=x) A;exact b2o h m z b d u r p x o y q l F D fd a n til j g i f
 ·obtain⟨q,l⟩:=a4K (p:=p) A;exact b6u h m z b d u r p x o y q l fd a n til j g i f
 ·obtain⟨q,l⟩:=a4K (p:=p) A;exact b6r h m z b d u r p x o y q l fd a n til j g i f
 ·obtain⟨q,l⟩:=a4K (p:=p) A;exact b6w h m z b d u r p x o y q l fd a n til j g i f
 ·exact b6p h m z b d u r p x o y fd a n til j g i f
 ·exact b2p h m z b d u r p x o y fd a n til j g i f
 ·exact b6o h m z b d u r p x o y fd a n til j g i f
 ·exact b6q h m b d u r p x o y fd a n til j g i f
theorem b8O(h:StIn w L B C s t sn fp σ)(l:SGd c σ)(j:L<=B)(g:C<=B)(m:B<=w.heap.size)(k:Int)(hk:k<1∨17<k)(p x:List UInt8)(fd a n:Int)(til:Nat)(i:Int)(d:Option Addr)(b f:Nat):
  Calls Tryz.prog 37 #[.pointer (some ⟨s,0,none⟩),.agg (a0b k (a0c p) (a0c x) fd a n til i d b f)] w fun e w'=>SRep w L B s c e w'/\e= .returned (.agg (noC ((30:Nat):Int) 0)):=
 b60 h l j g m k p x fd a n til i d b f 30 (by decide) (fun W _=>b3E s k hk (a0c p) (a0c x) fd a n til i d b f W)
def QL(c:Nat)(a:StM)(er e:Int)(b d:Nat)(_:Nd):Prop:=SGd (c+1) a/\(er≠0->e=0/\b=0/\d=0)
end
section
open Go.RowKit Go.ChangeMaps Go.MapKept
theorem b5a{w:World}{B c:Nat}{l:StM}(s:SGd c l)(I:c<=60000)(C:Glob w)(k:Nat)(hk:1<=k/\k<=17)(p x:List UInt8)(t:p.length<=1000000)(J:x.length<=1000000)(fd a n:Int)(til:Nat)(i:Int)(f:Option Addr)(g d:Nat)(h:List UInt8)(K:Bs w f g d h):b4Y w B l (a0b (k:Int) (a0c p) (a0c x) fd a n til i f g d) (QL c):=by
 intro W M L D E B' r _ h3 j H;refine(b8P H s I r (Aa _) h3 (C.below j) k hk p x t J fd a n til i f g d h (K.below j)).mono ?_;rintro e w' ⟨b,er,F,G,z,o,m,u,A,nd,rfl,y,q,v,hF⟩;exact⟨⟨b,er,F,G,z,o,m,u,A,nd,rfl,⟨v,fun e=>y (by omega)⟩,q⟩,hF⟩
theorem b7a{w:World}{B0 B d sb mb n pn g v st l c:Nat}{S id:List UInt8}{lh wv iv hv:Value}{V:VltM}(h:VIn w B d sb mb n pn g S id v st l lh wv iv hv V)(gd:SGd c V.σ)(hc:c<=60000)(q:B0<=B/\B0<=d/\B0<=sb/\B0<=mb)
  (k:Int) (hk:k<1∨17<k) (p x:List UInt8) (fd D nn:Int) (til:Nat) (Y:Int) (X:Option Addr) (P U:Nat):
  Calls Tryz.prog 13 #[.pointer (some ⟨v,0,none⟩),.agg (a0b k (a0c p) (a0c x) fd D nn til Y X P U)] w fun e w'=>(∃y:Nat,y≠0/\e= .returned (.agg (noC (y:Int) 0)))/\VIn w' B d sb mb n pn g S id v st l lh wv iv hv V/\Fr B0 w w':=by
 obtain⟨w1,r⟩:=qnm (w.alloc (.cells (a0b k (a0c p) (a0c x) fd D nn til Y X P U) TOp));obtain⟨w0,s⟩:=qnm (w1.alloc (.cells rpZ TReply));have hb1:=qba r;have C:=qba s;have F:w1.heap.size=w.heap.size+1:=by rw[r];simp
 have M:w0.heap.size=w.heap.size+2:=by rw[s];simp[F]
 have hb0:Below w.heap.size w w0:=hb1.trans (C.mono hb1.size);obtain⟨N,H⟩:=qnm w.heap.size;have j:w0.heap[N]? =some (.cells (a0b k (a0c p) (a0c x) fd D nn til Y X P U) TOp (0,0)):=by rw[H];exact(C.block _ (by omega)).trans (by rw[r];exact Ae w _)
 have z:w0.heap[N+1]? =some (.cells rpZ TReply (0,0)):=by rw[H,<-F,s];exact Ae w1 _
 have h0:=h.below hb0;obtain⟨t,sn,fp,Q⟩:=h0.st;have a0:=qh (a69 Q gd.tr.1 hc gd.sn.len h0.size);have c1:=(a0t h0.cel).2.1;have E:=(fun(W:World) (s' t' a2:Nat) (a4:Nat->Option Nat) (B':Nat) (h1:B<=B') (_h2:w.heap.size<=B') (h3:B'<=W.heap.size) (_hb:Below w.heap.size w W) (hS:StIn W B B' B' s' t' a2 a4 V.σ)=>(b8O hS gd h1 (Aa _) h3 k hk p x fd D nn til Y X P U).mono (fun e w' h=>show SRep W B B' s' c e w'/\∃y:Nat,y≠0/\e= .returned (.agg (noC (y:Int) 0)) from⟨h.1,30,by decide,h.2⟩))
 obtain⟨wr,i⟩:=qnm (a2w V.σ fd);have b:=qh (aI h (aI hb0 (aI j (aI z (aI q (aI M (aI H i)))))));have HW:=qh (aI s (aI r (aI F H)));obtain⟨o0,o1,o2,o3,o4,o5,o6,o7,o8⟩:=a0A j;have af:=qh H;clear h gd hc q r s hb1 C F M hb0 j z h0 Q i H;have E:=qh E;go_enter Tryz.func13,Tryz.ntmps13;go_upto_region 1 with fail
 have o:=qh HW.out;unfold rpZ a0b at o;unfold a0b;rw[<-o.out.2.1,<-o.out.1,<-o.out.2.2.2];clear o HW;go_wp2_with fail;refine a0.out.mono ?_;rintro e w2 ⟨s2,t2,a5,rfl,I,hb2⟩;clear o0 o1 o2 o3 o4 o5 o6 o7 o8 c1 a0;have G:=(hb2.block N (ltH b.out.2.2.1)).trans b.out.2.2.1;obtain⟨o0,o1,o2,o3,o4,o5,o6,o7,o8⟩:=a0A G;have i:=a61 I fd;rw[<-b.out.2.2.2.2.2.2.2] at i;have Z:=qh i;have L:=qh (E.out w2 s2 t2 a5 fp w0.heap.size (Ad b.out.1.size b.out.2.1.size) b.out.2.1.size hb2.size (b.out.2.1.trans (hb2.mono b.out.2.1.size)) I);unfold a0b at L;have H2:=qh hb2;clear I hb2 G i E;go_wp2_with fail;refine Z.out.mono ?_;rintro e w3 ⟨rfl,rfl⟩;go_wp2_with fail;refine L.out.mono ?_;rintro e w3 ⟨⟨a3,ab,aa,ae,a8,ag,a6,ac,a7,a9,_,_,T,_,O⟩,y,hy,rfl⟩;clear o0 o1 o2 o3 o4 o5 o6 o7 o8 L Z;obtain⟨w4,A⟩:=qnm (w3.alloc (.cells (noC (y:Int) 0) TReply));obtain⟨K,hK⟩:=qnm w3.heap.size;have f:=qba A;have u:Below w0.heap.size w0 w3:=H2.out.trans O.1;have a:Below w0.heap.size w0 w4:=u.trans (f.mono u.size);have a1:(DoS w w4 B0 B d sb mb n pn g S id v st l lh wv iv hv V s2 a3 N K (a0b k (a0c p) (a0c x) fd D nn til Y X P U) (noC (y:Int) 0)):=(by
  obtain⟨h,hb0,j,z,q,M,H,_⟩:=b.out;have hb4:=hb0.trans (a.mono hb0.size);exact⟨h.below hb4,T.chgs f,(a.block N (ltH j)).trans j,(a.block (N+1) (ltH z)).trans z,by rw[A,hK];exact Ae w3 _,Nat.le_of_eq H.symm,Fr.of hb4 (Ad q.1 h.size),q,h.size⟩)
 have m:=qh a1;clear a1;have ah:=qh (aI trivial (aI f (aI (aI (b.out.2.1.trans (a.mono b.out.2.1.size)) (aI b.out.2.2.2.2.2.1 b.out.1.lt)) b.out.2.2.2.2.2.2.2)));unfold noC at A;have J:=qh (aI A hK);clear A hK f u a T O b H2;have ad:¬(y:Int)=0:=by omega
 clear hy;unfold noC;go_upto_region 4 with fail
 rw[<-J.out.1,<-J.out.2];clear J;obtain⟨r0,r1,r2,r3,r4,r5,r6,r7,r8,r9⟩:=a11 (show w4.heap[K]? =some (.cells (rpC (y:Int) 0 (.slice none 0 0) (.slice none 0 0) a0z) TReply (0,0)) from m.out.zk);obtain⟨o0,o1,o2,o3,o4,o5,o6,o7,o8⟩:=a0A m.out.zo;have R:=qh m.out.fin;go_wp2_with (refine Ao rfl TReply (.tmp 4) (.tmp 28) rfl (N+1) (noC (y:Int) 0) rfl rfl TReply rpZ m.out.zr (by kernel_rfl) (by kernel_rfl) (by kernel_rfl) ?_);refine Aj (v:=.agg (noC (y:Int) 0)) (Ap rfl _ _ (N+1) TReply _ (0,0) _ rfl (AF _ _ _ _ TReply (0,0) m.out.zr) Tryz.underlying41 rfl (by kernel_rfl)) rfl ?_;exact⟨⟨y,by omega,rfl⟩,R.out.1,R.out.2⟩
end
end Go.Proofs.YtbemfdcjieakdaaGreatDoor
