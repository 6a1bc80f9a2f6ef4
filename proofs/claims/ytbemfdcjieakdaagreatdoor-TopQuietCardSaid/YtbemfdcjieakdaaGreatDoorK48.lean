/- Quiet1; RefNew; RefVault; RefVNew. -/
import Derived.Test.YtbemfdcjieakdaaGreatDoorK47
set_option maxRecDepth 100000
set_option maxHeartbeats 8000000
namespace Go.Proofs.YtbemfdcjieakdaaGreatDoor
section
open Go.RowKit Go.ChangeMaps Go.MapKept Go.Maps
theorem b2f{w:World}{d sb mb n:Nat}{S:List UInt8}(h:Dk w d sb mb n S nM):
  Calls Tryz.prog 9 #[.pointer (some ⟨d,0,none⟩)] w fun e w'=>∃v,e= .returned v/\Own w' w.heap.size v S/\Below w.heap.size w w':=by
 have J:=h.lt.1;obtain⟨_,I,Y,⟨cap,wr,G,V⟩,L,Q,_,b⟩:=h;have r:L=[]:=by
  cases L with
  | nil=>rfl
  | cons p L=>
   obtain⟨v,hv⟩:=b1f (p:=p) (AL ..);obtain⟨_,_,_,_,_,_,hM,_⟩:=b _ _ hv;cases hM
 subst r;have W:w.cell? ⟨d,0,none⟩=some (.slice (some ⟨sb,0,none⟩) (128 * n) cap):=a0a G 0;have T:w.cell? ⟨d,1,none⟩=some (.map (some mb)):=a0a G 1;have F:Bs w (some ⟨sb,0,none⟩) (128 * n) cap S:=by rw[<-I];exact V.bs
 obtain⟨m,D⟩:=qnm (128 * n);rw[<-D] at W F;have R:=qh (a0V (some ⟨sb,0,none⟩) m cap S w F (by unfold big;omega));have U:=qh Q;have H:S.length=m:=by rw[I,D]
 clear G V b F D Q I Y;go_enter Tryz.func9,Tryz.ntmps9;go_wp2_with fail;refine R.out.mono ?_;rintro e u ⟨v1,rfl,C,hb1⟩;obtain⟨a1,k1,rfl,-⟩:=C.bsn H;have T:=(hb1.cell (p:=⟨d,1,none⟩) J).trans T;have b:=U.out.below numS hb1;have E:=qh (aI C hb1);clear C hb1 R U;go_wp2_with (first
  | (at_range;refine wpList_range_own _ rfl _ 72 rfl TI64 _ a1m Tryz.underlying72 RH mb 0 _ rfl b ?_;intro wa a q s)
  | fail)
 obtain⟨K,g⟩:=qnm u.heap.size;rw[<-g] at a⊢;have o:=qh (aI g (aI q s));have c:=qh a;clear g q s a b;go_frame;go_loopw [4,5] (fun _ _ wx=>∃(left:Lit->Bool) (l:Nat),wx.ranges Tryz.prog TI64 RH mb K 0 (a3o numS ([]:List (Nat×Value))) left l/\Below u.heap.size u wx) (fun _ _ wx=>wx.rangeLeft mb K);case atStart=>exact ⟨_,_,c.out,(Ab _ u).grown o.out.2.1 (Aa _) (fun k hk=>by cases hk)⟩
 case round=>
  obtain⟨left,l,j,f⟩:=hrel;clear c o;go_wp2_with (first
   | (at_next;refine wpList_next_ranges _ rfl _ rfl TI64 a1m RH (Value.int .i64) (fun v=>v) (fun a0 Z hk=>by obtain⟨x,rfl,_⟩:=Maps.keyOf_int_inv Tryz.underlying3 hk;exact⟨x,rfl⟩) (fun v _ _=>⟨v,rfl⟩) mb K 0 _ _ _ rfl j ?_ ?_)
   | fail)
  ·intro _ _;have N:=qh (aI (E.out.1.below f) (E.out.2.trans (f.mono E.out.2.size)));clear j f;go_wp2_with fail;go_ret;exact⟨_,rfl,N.out.1,N.out.2⟩
  ·intro xk cv Z y ps w2 O t a3 A B M P a2 X a4;obtain⟨i,rfl,rfl,z⟩:=a4W (y:=(y,ps)) t A B;simp[getK] at z
variable {w : World} {B d sb mb n pn g v st l c : Nat} {S id : List UInt8} {lh wv iv hv : Value} {V : VltM}
theorem b1y(h:VIn w B d sb mb n pn g S id v st l lh wv iv hv V)(i:SGd c V.σ)(o:c<=60000):
  Calls Tryz.prog 10 #[.pointer (some ⟨v,0,none⟩)] w fun e w'=>∃y,e= .returned y/\Own w' w.heap.size y (a3K V.σ)/\(a3K V.σ).length<=a7Z+130000000/\Below w.heap.size w w':=by
 have k:=qh (b3i h.st i o h.size);have p:=(a0t h.cel).2.1;clear h i;go_enter Tryz.func10,Tryz.ntmps10;go_wp2_with fail;refine k.out.mono ?_;rintro e r ⟨y,rfl,b,j,h3⟩;obtain⟨m,f⟩:∃m,(a3K V.σ).length=m:=⟨_,rfl⟩
 obtain⟨s,q,rfl,-⟩:=b.bsn f;have a:=qh (aI b (aI j h3));clear b j h3 f;go_wp2_with fail;go_ret;exact⟨_,rfl,a.out.1,a.out.2.1,a.out.2.2⟩
theorem b2M(h:VIn w B d sb mb n pn g S id v st l lh wv iv hv V)(f:V.M.head.length=32):
  Calls Tryz.prog 11 #[.pointer (some ⟨v,0,none⟩)] w fun e w'=>∃y,e= .returned y/\Own w' w.heap.size y V.M.head/\Below w.heap.size w w':=by
 have c:=qh (a6s h.log (by omega));have i:=(a0t h.cel).2.2.1;clear h;go_enter Tryz.func11,Tryz.ntmps11;go_wp2_with fail;refine c.out.mono ?_;rintro e k ⟨⟨y,rfl,a⟩,h3⟩;obtain⟨m,j,rfl,-⟩:=a.bsn f;have b:=qh (aI a h3);clear a h3;go_wp2_with fail;go_ret;exact⟨_,rfl,b.out.1,b.out.2⟩
theorem b1x(h:VIn w B d sb mb n pn g S id v st l lh wv iv hv V):
  Calls Tryz.prog 12 #[.pointer (some ⟨v,0,none⟩)] w fun e w'=>e= .returned (.int .i64 (V.M.wait.length:Int))/\w'=w:=by
 have a:=qh (a5y h.log);have c:=(a0t h.cel).2.2.1;clear h;go_enter Tryz.func12,Tryz.ntmps12;go_wp2_with fail;refine a.out.mono ?_;rintro e b ⟨rfl,rfl⟩;go_wp2_with fail;go_ret;exact⟨rfl,rfl⟩
end
section
open Go.RowKit
abbrev a9K:TypeId:=39
abbrev b67:TypeId:=312
abbrev TBs:TypeId:=30
abbrev b74:TypeId:=50
abbrev b6N:TypeId:=378
abbrev b2A:TypeId:=313
abbrev b4Z:TypeId:=315
section
variable {P : Program} {ops : Array Oper} {Q : Exit → Act → World → Prop} {md : Region.Mode} {S : World → Prop} {bef : Nat → Bool}
theorem a6v{d:Nat}{b:Array Bool}{a:Act}{w:World}(i j k:Nat){m h l:Oper}(o:Region.ready md ops b=[i,j,k])(s:ops[i]? =some m)(p:ops[j]? =some h)(hk:ops[k]? =some l)
  (q:∀c:Act->World->Prop,Shut (∀a w,(bef i=true->S w)->a1h P md ops Q bef S d (b.setIfInBounds i true) a w->c a w)->if Region.wanted m (yielded ops a.tmps)=true then Oper.wp P m a w c Q else c (a.put m.dst undef) w)
  (r:∀c:Act->World->Prop,Shut (∀a w,(bef j=true->S w)->a1h P md ops Q bef S d (b.setIfInBounds j true) a w->c a w)->if Region.wanted h (yielded ops a.tmps)=true then Oper.wp P h a w c Q else c (a.put h.dst undef) w)
  (h3:∀c:Act->World->Prop,Shut (∀a w,(bef k=true->S w)->a1h P md ops Q bef S d (b.setIfInBounds k true) a w->c a w)->if Region.wanted l (yielded ops a.tmps)=true then Oper.wp P l a w c Q else c (a.put l.dst undef) w):
  a1h P md ops Q bef S (d+1) b a w:=by
 refine⟨fun n=>(by rw[o] at n;cases n),fun x e=>?_⟩;rw[o] at e;rcases AP.1 e with rfl | e
 ·exact wpOp_step s (fun c hK=>q c (fun a w g f=>hK a w ⟨g,f⟩))
 rcases AP.1 e with rfl | e
 ·exact wpOp_step p (fun c hK=>r c (fun a w g f=>hK a w ⟨g,f⟩))
 ·obtain rfl:=AQ.1 e;exact wpOp_step hk (fun c hK=>h3 c (fun a w g f=>hK a w ⟨g,f⟩))
end
structure RNI (w0 W:World) (l:List (Nat×TypeId)):Prop where
 bel:Below w0.heap.size w0 W
 pl:∀p∈l,w0.heap.size<=p.1/\W.heap[p.1]? =some (.cells #[] p.2 (0,0))
theorem RNI.new{c W W':World}{l:List (Nat×TypeId)}(h:RNI c W l)(T:TypeId){g:Nat}(d:W'=W.alloc (.cells #[] T))(e:g=W.heap.size):RNI c W' ((g,T) :: l):=by
 subst d e;have b:Below W.heap.size W (W.alloc (.cells #[] T)):=(Ab _ _).alloc (Aa _) _;refine⟨h.bel.trans (b.mono h.bel.size),fun p a=>?_⟩;rcases AP.1 a with rfl | a
 ·exact⟨h.bel.size,Ae _ _⟩
 ·exact⟨(h.pl p a).1,(b.block p.1 (Array.getElem?_eq_some_iff.1 (h.pl p a).2).1).trans (h.pl p a).2⟩
theorem RNI.app{d W W':World}{l l':List (Nat×TypeId)}(h:RNI d W l){g:Nat}{T:TypeId}(i:(g,T)∈l)(f:W.grownBy W' (some g))(m:∀p∈l',p∈l/\p.2≠T):RNI d W' l':=by
 refine⟨h.bel.grown f h.bel.size (fun k e=>by cases e;exact(h.pl _ i).1),fun p c=>?_⟩;obtain⟨b,n⟩:=m p c;refine⟨(h.pl p b).1,(f.block p.1 (Array.getElem?_eq_some_iff.1 (h.pl p b).2).1 (fun e=>n ?_)).trans (h.pl p b).2⟩;have j:p.1=g:=by injection e
 have h3:=(h.pl p b).2;have a:=(h.pl _ i).2;rw[j] at h3;simp only at a;rw[h3] at a;injection a with a;injection a with _ a
theorem RNI.step{a W:World}{l:List (Nat×TypeId)}(h:RNI a W l)(T:TypeId):∃W' g,W'=W.alloc (.cells #[] T)/\g=W.heap.size/\RNI a W' ((g,T) :: l):=⟨_,_,rfl,rfl,h.new T rfl rfl⟩
theorem RNI.less{b W W':World}{l:List (Nat×TypeId)}(h:RNI b W l){g:Nat}{T:TypeId}(a:(g,T)∈l)(c:W.grownBy W' (some g)):RNI b W' (l.filter fun p=>p.2 != T):=
 h.app a c (fun p a=>by rw[Ck] at a;exact⟨a.1,by simpa using a.2⟩)
theorem a5N{W:World}{g:Nat}{T:TypeId}{size:Nat}(h:W.heap[g]? =some (.cells #[] T (0,0))):W.ownsRow 0 T size (.slice (some ⟨g,0,none⟩) 0 0) 0 []:=
 ⟨by simp,.inr ⟨g,0,#[],rfl,AH _,h,Aa _,AH _,by simp,by simp⟩⟩
theorem b7H:(Tryz.prog.info? a9K).map (fun i=>(i.zero,i.size,i.bytes))=some (some (.agg #[.int .i64 0,.int .i64 0,.int .i64 0,.int .i64 0,.int .u64 0,.bool false]),6,48):=by kernel_rfl
theorem b7J:(Tryz.prog.info? TBs).map (fun i=>(i.zero,i.size,i.bytes))=some (some (.slice none 0 0),1,24):=by kernel_rfl
theorem a8T{W:World}{B n size:Nat}{T:TypeId}{v:Value}{xs:List Value}(h:W.ownsRow B T size v n xs):∃a c,v= .slice a n c:=by
 rcases h.2 with⟨b,d⟩ | ⟨g,c,_,b,_⟩
 ·exact⟨none,0,by rw[b,d]⟩
 ·exact⟨_,c,b⟩
theorem b4W{W:World}{g a:Nat}(p:W.heap[g]? =some (.cells #[] a9K (0,0)))(m:W.heap[a]? =some (.cells #[.int .i64 0,.int .i64 2,.int .i64 1,.int .i64 0,.int .u64 0,.bool true] a9K (0,0))):
  ∃d h W',(Builtin.append_ #[b67,b67] b67 #[.slice (some ⟨g,0,none⟩) 0 0,.slice (some ⟨a,0,none⟩) 1 1]).run Tryz.prog W= .ok (.slice d 1 h) W'/\W.grownBy W' (some g):=by
 obtain⟨i,q,c,f,k⟩:=a1U b7H;obtain⟨r,w',l,n,o,_⟩:=run_append_own_at (P:=Tryz.prog) W 0 b67 b67 a9K i _ 6 48 Tryz.underlying312 q c f k rfl (by decide) _ 0 [] (a5N p) ⟨a,0,none⟩ 1 1 [.int .i64 0,.int .i64 2,.int .i64 1,.int .i64 0,.int .u64 0,.bool true] (by simp) (fun j u b=>by
   have s:j<6:=by have:=(AG.1 b).1;simpa using this
   have e:(⟨a,0,none⟩:Addr).add j=⟨a,j,none⟩:=by cases j <;>simp [Addr.add]
   rw[e,a0a m j];simpa using b) (by intro u b;simp at b;rcases b with rfl | rfl | rfl | rfl | rfl | rfl <;>rfl) (by unfold maxLen;omega) (by omega) (AH _)
 obtain⟨d,h,rfl⟩:=a8T n;exact⟨d,h,w',l,o⟩
theorem b66{W:World}{g a:Nat}(p:W.heap[g]? =some (.cells #[] TBs (0,0)))(m:W.heap[a]? =some (.cells #[.slice none 0 0] TBs (0,0))):
  ∃d h W',(Builtin.append_ #[b74,b74] b74 #[.slice (some ⟨g,0,none⟩) 0 0,.slice (some ⟨a,0,none⟩) 1 1]).run Tryz.prog W= .ok (.slice d 1 h) W'/\W.grownBy W' (some g):=by
 obtain⟨i,q,c,f,k⟩:=a1U b7J;obtain⟨r,w',l,n,o,_⟩:=run_append_own_at (P:=Tryz.prog) W 0 b74 b74 TBs i _ 1 24 Tryz.underlying50 q c f k rfl (by decide) _ 0 [] (a5N p) ⟨a,0,none⟩ 1 1 [.slice none 0 0] (by simp) (fun j u b=>by
   have s:j<1:=by have:=(AG.1 b).1;simpa using this
   have e:(⟨a,0,none⟩:Addr).add j=⟨a,j,none⟩:=by cases j <;>simp [Addr.add]
   rw[e,a0a m j];simpa using b) (by intro u b;simp at b;rcases b with rfl;rfl) (by unfold maxLen;omega) (by omega) (AH _)
 obtain⟨d,h,rfl⟩:=a8T n;exact⟨d,h,w',l,o⟩
def RT0(w:World)(t a g:Nat):Prop:=w.heap[t]? =some (.cells #[.slice (some ⟨a,0,none⟩) 1 1,.slice (some ⟨g,0,none⟩) 1 1,.slice none 0 0] b4Z (0,0))/\w.heap[a]? =some (.cells #[.int .i64 0,.int .i64 2,.int .i64 1,.int .i64 0,.int .u64 0,.bool true] a9K (0,0))/\w.heap[g]? =some (.cells #[.slice none 0 0] TBs (0,0))
theorem RT0.below{w w':World}{t a g:Nat}(h:RT0 w t a g)(b:Below w.heap.size w w'):RT0 w' t a g:=
 ⟨(b.block t (ltH h.1)).trans h.1,(b.block a (ltH h.2.1)).trans h.2.1,(b.block g (ltH h.2.2)).trans h.2.2⟩
theorem b3m(w:World):Calls Tryz.prog 137 #[] w fun e w'=>(∃t a g,e= .returned (.pointer (some ⟨t,0,none⟩))/\RT0 w' t a g)/\Below w.heap.size w w':=by
 obtain⟨f,c⟩:=qnm (w.alloc (.cells #[.int .i64 0,.int .i64 2,.int .i64 1,.int .i64 0,.int .u64 0,.bool true] a9K));obtain⟨w2,d⟩:=qnm (f.alloc (.cells #[.slice none 0 0] TBs));obtain⟨h,b⟩:=qnm (w2.alloc (.cells #[.slice (some ⟨w.heap.size,0,none⟩) 1 1,.slice (some ⟨f.heap.size,0,none⟩) 1 1,.slice none 0 0] b4Z));have hb1:=qba c;have hb2:=qba d;have hb3:=qba b;have k:f.heap[w.heap.size]? =some (.cells #[.int .i64 0,.int .i64 2,.int .i64 1,.int .i64 0,.int .u64 0,.bool true] a9K (0,0)):=by rw[c];exact Ae w _
 have j:w2.heap[f.heap.size]? =some (.cells #[.slice none 0 0] TBs (0,0)):=by rw[d];exact Ae f _
 have l:h.heap[w2.heap.size]? =some (.cells #[.slice (some ⟨w.heap.size,0,none⟩) 1 1,.slice (some ⟨f.heap.size,0,none⟩) 1 1,.slice none 0 0] b4Z (0,0)):=by rw[b];exact Ae w2 _
 have i:=qh (show RT0 h w2.heap.size w.heap.size f.heap.size/\Below w.heap.size w h from⟨⟨l,((hb2.trans (hb3.mono hb2.size)).block _ (ltH k)).trans k,(hb3.block _ (ltH j)).trans j⟩,hb1.trans ((hb2.trans (hb3.mono hb2.size)).mono hb1.size)⟩);rw[b,d,c] at i;clear hb1 hb2 hb3 k j l c d b f w2 h;go_enter Tryz.func137,Tryz.ntmps137;go_wp2_with fail;go_ret;exact⟨⟨_,_,_,rfl,by simpa using i.out.1⟩,by simpa using i.out.2⟩
theorem b7I:(Tryz.prog.info? b6N).map (fun i=>(i.zero,i.size,i.bytes))=some (some (.agg #[.int .i64 0,.string ByteArray.empty,.int .i64 0]),3,32):=by kernel_rfl
theorem b6L{W:World}{g:Nat}(a:W.heap[g]? =some (.cells #[] b6N (0,0))):(Builtin.append_ #[b2A,b2A] b2A #[.slice (some ⟨g,0,none⟩) 0 0,.slice none 0 0]).run Tryz.prog W= .ok (.slice (some ⟨g,0,none⟩) 0 0) W:=by
 obtain⟨i,b,_⟩:=a1U b7I;exact a1a (P:=Tryz.prog) (w:=W) 0 b2A b2A b6N i 3 Tryz.underlying313 b _ 0 0 [] (a5N a)
theorem b1N{w:World}{t a g:Nat}(h:RT0 w t a g):Calls Tryz.prog 219 #[.pointer (some ⟨t,0,none⟩)] w fun e w'=>(∃c,e= .returned (.pointer (some ⟨c,0,none⟩)))/\Below w.heap.size w w':=by
 obtain⟨wd,o⟩:=qnm w.drew;have r:Below w.heap.size w wd:=by rw[o];exact(Ab _ _).drew
 have l:=qh (h.below r);have y:wd.heap.size=w.heap.size:=by rw[o];rfl
 have x:=qh (show RNI wd wd [] from⟨Ab _ _,fun p z=>by simp at z⟩);have m:=qh (show ∀W,Below wd.heap.size wd W->W.cell? ⟨t,0,none⟩=some (.slice (some ⟨a,0,none⟩) 1 1)/\W.cell? ⟨t,1,none⟩=some (.slice (some ⟨g,0,none⟩) 1 1)/\W.cell? ⟨t,2,none⟩=some (.slice none 0 0) from fun W A=>have u:=((h.below r).below A).1;⟨a0a u 0,a0a u 1,a0a u 2⟩);have HB:=qh (aI r y);clear h r y;go_enter Tryz.func219,Tryz.ntmps219;go_upto_region 1 with fail
 refine a0h (fun i=>List.contains (List.range 20) i) (fun W=>W.cell? ⟨t,0,none⟩=some (.slice (some ⟨a,0,none⟩) 1 1)/\W.cell? ⟨t,1,none⟩=some (.slice (some ⟨g,0,none⟩) 1 1)/\W.cell? ⟨t,2,none⟩=some (.slice none 0 0)) (by kernel_rfl) ?_ (fun hHeld=>?_)
 ·rw[<-o];exact m.out _ (Ab _ _)
 rw[<-o] at hHeld⊢;clear o;refine qtk 1 4 ?_;refine qtk 2 5 ?_;refine qtk 3 6 ?_;refine qtk 4 7 ?_;refine qtk 7 10 ?_;refine qtk 8 11 ?_;refine qtk 9 12 ?_;refine qtk 10 13 ?_;refine qtk 13 16 ?_;refine qtk 14 17 ?_;refine qtk 15 18 ?_;refine qtk 16 19 ?_;have d:=x;refine a6v 0 6 12 (by kernel_rfl) rfl rfl rfl (fun K hK=>?_) (fun K hK=>?_) (fun K hK=>?_);all_goals first
  | (go_simp;obtain⟨v,g1,j,f,b⟩:=d.out.step a9K;rw[<-j,<-f];clear hHeld;have hHeld:=m.out v b.bel;clear j f d;have d:=qh b;clear b;refine hK.out _ _ (fun _=>hHeld) ?_;clear hK K)
  | (go_simp;obtain⟨v,g2,j,f,b⟩:=d.out.step TBs;rw[<-j,<-f];clear hHeld;have hHeld:=m.out v b.bel;clear j f d;have d:=qh b;clear b;refine hK.out _ _ (fun _=>hHeld) ?_;clear hK K)
  | (go_simp;obtain⟨v,g3,j,f,b⟩:=d.out.step b6N;rw[<-j,<-f];clear hHeld;have hHeld:=m.out v b.bel;clear j f d;have d:=qh b;clear b;refine hK.out _ _ (fun _=>hHeld) ?_;clear hK K)
 refine a6v 5 6 12 (by kernel_rfl) rfl rfl rfl (fun K hK=>?_) (fun K hK=>?_) (fun K hK=>?_);rotate_left 3
 refine a0J 0 12 (by kernel_rfl) rfl rfl (fun K hK=>?_) (fun K hK=>?_);rotate_left 2
 refine a0J 0 6 (by kernel_rfl) rfl rfl (fun K hK=>?_) (fun K hK=>?_);rotate_left 2
 all_goals first
  | (obtain⟨q,s,v,n,k⟩:=b4W (d.out.pl (g1,a9K) (by simp+decide)).2 ((d.out.bel.block a (ltH l.out.2.1)).trans l.out.2.1);refine a0D (by rfl) _ _ b67 rfl _ _ _ (by rfl) (by rfl) n ?_;have b:=d.out.less (g:=g1) (T:=a9K) (by simp+decide) k;clear n k hHeld;have hHeld:=m.out v b.bel;clear d;have d:=qh b;clear b;go_wp2_with fail;refine hK.out _ _ (fun _=>hHeld) ?_;clear hK K)
  | (go_simp;obtain⟨v,g1,j,f,b⟩:=d.out.step a9K;rw[<-j,<-f];clear hHeld;have hHeld:=m.out v b.bel;clear j f d;have d:=qh b;clear b;refine hK.out _ _ (fun _=>hHeld) ?_;clear hK K)
  | (go_simp;obtain⟨v,g2,j,f,b⟩:=d.out.step TBs;rw[<-j,<-f];clear hHeld;have hHeld:=m.out v b.bel;clear j f d;have d:=qh b;clear b;refine hK.out _ _ (fun _=>hHeld) ?_;clear hK K)
  | (go_simp;obtain⟨v,g3,j,f,b⟩:=d.out.step b6N;rw[<-j,<-f];clear hHeld;have hHeld:=m.out v b.bel;clear j f d;have d:=qh b;clear b;refine hK.out _ _ (fun _=>hHeld) ?_;clear hK K)
 refine a0J 6 12 (by kernel_rfl) rfl rfl (fun K hK=>?_) (fun K hK=>?_);rotate_left 2
 refine a0J 5 12 (by kernel_rfl) rfl rfl (fun K hK=>?_) (fun K hK=>?_);rotate_left 2
 refine a0J 5 6 (by kernel_rfl) rfl rfl (fun K hK=>?_) (fun K hK=>?_);rotate_left 2
 refine a0J 5 12 (by kernel_rfl) rfl rfl (fun K hK=>?_) (fun K hK=>?_);rotate_left 2
 refine a0k 0 (by kernel_rfl) rfl (fun K hK=>?_);rotate_left 1
 refine a0J 5 6 (by kernel_rfl) rfl rfl (fun K hK=>?_) (fun K hK=>?_);rotate_left 2
 refine a0k 0 (by kernel_rfl) rfl (fun K hK=>?_);rotate_left 1
 all_goals first
  | (obtain⟨q,s,v,n,k⟩:=b4W (d.out.pl (g1,a9K) (by simp+decide)).2 ((d.out.bel.block a (ltH l.out.2.1)).trans l.out.2.1);refine a0D (by rfl) _ _ b67 rfl _ _ _ (by rfl) (by rfl) n ?_;have b:=d.out.less (g:=g1) (T:=a9K) (by simp+decide) k;clear n k hHeld;have hHeld:=m.out v b.bel;clear d;have d:=qh b;clear b;go_wp2_with fail;refine hK.out _ _ (fun _=>hHeld) ?_;clear hK K)
  | (go_simp;obtain⟨v,g1,j,f,b⟩:=d.out.step a9K;rw[<-j,<-f];clear hHeld;have hHeld:=m.out v b.bel;clear j f d;have d:=qh b;clear b;refine hK.out _ _ (fun _=>hHeld) ?_;clear hK K)
  | (go_simp;obtain⟨v,g2,j,f,b⟩:=d.out.step TBs;rw[<-j,<-f];clear hHeld;have hHeld:=m.out v b.bel;clear j f d;have d:=qh b;clear b;refine hK.out _ _ (fun _=>hHeld) ?_;clear hK K)
  | (go_simp;obtain⟨v,g3,j,f,b⟩:=d.out.step b6N;rw[<-j,<-f];clear hHeld;have hHeld:=m.out v b.bel;clear j f d;have d:=qh b;clear b;refine hK.out _ _ (fun _=>hHeld) ?_;clear hK K)
 refine a0J 11 12 (by kernel_rfl) rfl rfl (fun K hK=>?_) (fun K hK=>?_);rotate_left 2
 refine a0k 6 (by kernel_rfl) rfl (fun K hK=>?_);rotate_left 1
 refine a0J 11 12 (by kernel_rfl) rfl rfl (fun K hK=>?_) (fun K hK=>?_);rotate_left 2
 refine a0k 5 (by kernel_rfl) rfl (fun K hK=>?_);rotate_left 1
 refine a0k 6 (by kernel_rfl) rfl (fun K hK=>?_);rotate_left 1
 refine a0k 5 (by kernel_rfl) rfl (fun K hK=>?_);rotate_left 1
 refine a0J 11 12 (by kernel_rfl) rfl rfl (fun K hK=>?_) (fun K hK=>?_);rotate_left 2
 refine a0k 5 (by kernel_rfl) rfl (fun K hK=>?_);rotate_left 1
 refine a0k 5 (by kernel_rfl) rfl (fun K hK=>?_);rotate_left 1
 refine a0k 6 (by kernel_rfl) rfl (fun K hK=>?_);rotate_left 1
 refine a0k 5 (by kernel_rfl) rfl (fun K hK=>?_);rotate_left 1
 refine a0k 5 (by kernel_rfl) rfl (fun K hK=>?_);rotate_left 1
 all_goals first
  | (obtain⟨q,s,v,n,k⟩:=b4W (d.out.pl (g1,a9K) (by simp+decide)).2 ((d.out.bel.block a (ltH l.out.2.1)).trans l.out.2.1);refine a0D (by rfl) _ _ b67 rfl _ _ _ (by rfl) (by rfl) n ?_;have b:=d.out.less (g:=g1) (T:=a9K) (by simp+decide) k;clear n k hHeld;have hHeld:=m.out v b.bel;clear d;have d:=qh b;clear b;go_wp2_with fail;refine hK.out _ _ (fun _=>hHeld) ?_;clear hK K)
  | (obtain⟨q,s,v,n,k⟩:=b66 (d.out.pl (g2,TBs) (by simp+decide)).2 ((d.out.bel.block g (ltH l.out.2.2)).trans l.out.2.2);refine a0D (by rfl) _ _ b74 rfl _ _ _ (by rfl) (by rfl) n ?_;have b:=d.out.less (g:=g2) (T:=TBs) (by simp+decide) k;clear n k hHeld;have hHeld:=m.out v b.bel;clear d;have d:=qh b;clear b;go_wp2_with fail;refine hK.out _ _ (fun _=>hHeld) ?_;clear hK K)
  | (go_simp;obtain⟨v,g2,j,f,b⟩:=d.out.step TBs;rw[<-j,<-f];clear hHeld;have hHeld:=m.out v b.bel;clear j f d;have d:=qh b;clear b;refine hK.out _ _ (fun _=>hHeld) ?_;clear hK K)
  | (go_simp;obtain⟨v,g3,j,f,b⟩:=d.out.step b6N;rw[<-j,<-f];clear hHeld;have hHeld:=m.out v b.bel;clear j f d;have d:=qh b;clear b;refine hK.out _ _ (fun _=>hHeld) ?_;clear hK K)
 refine a0k 12 (by kernel_rfl) rfl (fun K hK=>?_);rotate_left 1
 refine a0k 11 (by kernel_rfl) rfl (fun K hK=>?_);rotate_left 1
 refine a0k 11 (by kernel_rfl) rfl (fun K hK=>?_);rotate_left 1
 refine a0k 12 (by kernel_rfl) rfl (fun K hK=>?_);rotate_left 1
 refine a0k 11 (by kernel_rfl) rfl (fun K hK=>?_);rotate_left 1
 refine a0k 11 (by kernel_rfl) rfl (fun K hK=>?_);rotate_left 1
 refine a0k 11 (by kernel_rfl) rfl (fun K hK=>?_);rotate_left 1
 refine a0k 11 (by kernel_rfl) rfl (fun K hK=>?_);rotate_left 1
 refine a0k 12 (by kernel_rfl) rfl (fun K hK=>?_);rotate_left 1
 refine a0k 11 (by kernel_rfl) rfl (fun K hK=>?_);rotate_left 1
 refine a0k 11 (by kernel_rfl) rfl (fun K hK=>?_);rotate_left 1
 refine a0k 11 (by kernel_rfl) rfl (fun K hK=>?_);rotate_left 1
 refine a0k 11 (by kernel_rfl) rfl (fun K hK=>?_);rotate_left 1
 refine a0k 11 (by kernel_rfl) rfl (fun K hK=>?_);rotate_left 1
 refine a0k 11 (by kernel_rfl) rfl (fun K hK=>?_);rotate_left 1
 all_goals first
  | (obtain⟨q,s,v,n,k⟩:=b66 (d.out.pl (g2,TBs) (by simp+decide)).2 ((d.out.bel.block g (ltH l.out.2.2)).trans l.out.2.2);refine a0D (by rfl) _ _ b74 rfl _ _ _ (by rfl) (by rfl) n ?_;have b:=d.out.less (g:=g2) (T:=TBs) (by simp+decide) k;clear n k hHeld;have hHeld:=m.out v b.bel;clear d;have d:=qh b;clear b;go_wp2_with fail;refine hK.out _ _ (fun _=>hHeld) ?_;clear hK K)
  | (go_simp;obtain⟨v,g3,j,f,b⟩:=d.out.step b6N;rw[<-j,<-f];clear hHeld;have hHeld:=m.out v b.bel;clear j f d;have d:=qh b;clear b;refine hK.out _ _ (fun _=>hHeld) ?_;clear hK K)
 refine a0k 17 (by kernel_rfl) rfl (fun K hK=>?_);rotate_left 1
 refine a0k 17 (by kernel_rfl) rfl (fun K hK=>?_);rotate_left 1
 refine a0k 17 (by kernel_rfl) rfl (fun K hK=>?_);rotate_left 1
 refine a0k 17 (by kernel_rfl) rfl (fun K hK=>?_);rotate_left 1
 refine a0k 17 (by kernel_rfl) rfl (fun K hK=>?_);rotate_left 1
 refine a0k 17 (by kernel_rfl) rfl (fun K hK=>?_);rotate_left 1
 refine a0k 17 (by kernel_rfl) rfl (fun K hK=>?_);rotate_left 1
 refine a0k 17 (by kernel_rfl) rfl (fun K hK=>?_);rotate_left 1
 refine a0k 17 (by kernel_rfl) rfl (fun K hK=>?_);rotate_left 1
 refine a0k 17 (by kernel_rfl) rfl (fun K hK=>?_);rotate_left 1
 refine a0k 17 (by kernel_rfl) rfl (fun K hK=>?_);rotate_left 1
 refine a0k 17 (by kernel_rfl) rfl (fun K hK=>?_);rotate_left 1
 refine a0k 17 (by kernel_rfl) rfl (fun K hK=>?_);rotate_left 1
 refine a0k 17 (by kernel_rfl) rfl (fun K hK=>?_);rotate_left 1
 refine a0k 17 (by kernel_rfl) rfl (fun K hK=>?_);rotate_left 1
 all_goals first
  | (have n:=b6L (d.out.pl (g3,b6N) (by simp+decide)).2;refine a0D (by rfl) _ _ b2A rfl _ _ _ (by rfl) (by rfl) n ?_;clear n;go_wp2_with fail;refine hK.out _ _ (fun _=>hHeld) ?_;clear hK K)
 all_goals
  refine qtk 18 21 ?_;refine a0k 19 (by decide+kernel) rfl (fun K hK=>?_);go_simp;refine hK.out _ _ (fun _=>m.out _ (d.out.bel.alloc (d.out.bel.size) _)) ?_;clear hK K;refine qfr 20 2 ?_;refine qdon ?_;go_wp2_with fail;go_ret;exact⟨⟨_,rfl⟩,HB.out.1.trans ((d.out.bel.alloc d.out.bel.size _).mono HB.out.1.size)⟩
abbrev b41:TypeId:=318
abbrev b2z:TypeId:=446
abbrev a7N:TypeId:=316
abbrev b40:TypeId:=223
theorem a6X{w:World}{t a g:Nat}(h:RT0 w t a g):Calls Tryz.prog 139 #[.pointer (some ⟨t,0,none⟩)] w fun e w'=>(∃c,e= .returned (.pointer (some ⟨c,0,none⟩)))/\Below w.heap.size w w':=by
 have d:=qh (b1N h);have H:=qh h;clear h;go_enter Tryz.func139,Tryz.ntmps139;go_wp2_with fail;refine d.out.mono ?_;rintro e f ⟨⟨c,rfl⟩,hb1⟩;have b:=H.out.below hb1;have j:f.cell? ⟨t,0,none⟩=some (.slice (some ⟨a,0,none⟩) 1 1):=a0a b.1 0;have i:f.cell? ⟨a,5,none⟩=some (.bool true):=a0a b.2.1 5;have HB:=qh hb1;clear d b hb1;go_wp2_with fail;refine BQ 3 ?_;rw[A0];go_wp2_with fail;rw[A0];go_wp2_with fail;go_ret;exact⟨⟨c,rfl⟩,HB.out⟩
def RSn0(w:World)(s:Nat):Prop:=w.heap[s]? =some (.cells #[.int .i64 1,.slice none 0 0,.slice none 0 0] b41 (0,0))
theorem RSn0.below{w w':World}{s:Nat}(h:RSn0 w s)(a:Below w.heap.size w w'):RSn0 w' s:=(a.block s (ltH h)).trans h
theorem b3n(w:World):Calls Tryz.prog 138 #[] w fun e w'=>(∃s,e= .returned (.pointer (some ⟨s,0,none⟩))/\RSn0 w' s)/\Below w.heap.size w w':=by
 go_enter Tryz.func138,Tryz.ntmps138;go_wp2_with fail;go_ret;exact⟨⟨_,rfl,Ae w _⟩,(Ab _ _).alloc (Aa _) _⟩
theorem b6f:(Tryz.prog.info? b2z).map (fun i=>(i.zero,i.size,i.bytes))=some (some (.agg #[.int .i64 0,.slice none 0 0,.pointer none]),3,40):=by kernel_rfl
theorem b6K{W:World}{g:Nat}(a:W.heap[g]? =some (.cells #[] b2z (0,0))):(Builtin.append_ #[a7N,a7N] a7N #[.slice (some ⟨g,0,none⟩) 0 0,.slice none 0 0]).run Tryz.prog W= .ok (.slice (some ⟨g,0,none⟩) 0 0) W:=by
 obtain⟨i,b,_⟩:=a1U b6f;exact a1a (P:=Tryz.prog) (w:=W) 0 a7N a7N b2z i 3 Tryz.underlying316 b _ 0 0 [] (a5N a)
theorem b1P{w:World}{s:Nat}(h:RSn0 w s):Calls Tryz.prog 140 #[.pointer (some ⟨s,0,none⟩)] w fun e w'=>(∃c,e= .returned (.pointer (some ⟨c,0,none⟩)))/\Below w.heap.size w w':=by
 obtain⟨wd,b⟩:=qnm w.drew;have d:Below w.heap.size w wd:=by rw[b];exact(Ab _ _).drew
 have g:=qh (show RNI wd wd [] from⟨Ab _ _,fun p q=>by simp at q⟩);have j:=qh (show ∀W,Below wd.heap.size wd W->W.cell? ⟨s,0,none⟩=some (.int .i64 1)/\W.cell? ⟨s,1,none⟩=some (.slice none 0 0)/\W.cell? ⟨s,2,none⟩=some (.slice none 0 0) from fun W o=>have k:=(h.below d).below o;⟨a0a k 0,a0a k 1,a0a k 2⟩);have HB:=qh d;clear h d;go_enter Tryz.func140,Tryz.ntmps140;go_upto_region 1 with fail
 refine a0h (fun i=>List.contains (List.range 16) i) (fun W=>W.cell? ⟨s,0,none⟩=some (.int .i64 1)/\W.cell? ⟨s,1,none⟩=some (.slice none 0 0)/\W.cell? ⟨s,2,none⟩=some (.slice none 0 0)) (by kernel_rfl) ?_ (fun hHeld=>?_)
 ·rw[<-b];exact j.out _ (Ab _ _)
 rw[<-b] at hHeld⊢;clear b;refine qtk 0 3 ?_;refine qtk 1 4 ?_;refine qtk 2 5 ?_;refine qtk 3 6 ?_;refine qtk 4 7 ?_;refine qtk 5 8 ?_;refine qtk 6 9 ?_;refine qtk 7 10 ?_;refine qtk 9 12 ?_;refine qtk 10 13 ?_;refine qtk 11 14 ?_;refine qtk 12 15 ?_;refine qone 8 fun K hK=>?_
 go_simp;obtain⟨m,f⟩:=qnm (wd.alloc (.cells #[] b2z));obtain⟨g1,l⟩:=qnm wd.heap.size;have a:=qh (g.out.new b2z f l);have hHeld:=j.out m a.out.bel;rw[<-f,<-l];clear f l;refine hK.out _ _ (fun _=>hHeld) ?_;clear hK K;refine qone 13 fun K hK=>?_
 have n:=b6K (W:=m) (a.out.pl (g1,b2z) (by simp)).2;refine a0D (by rfl) _ _ a7N rfl _ _ _ (by rfl) (by rfl) n ?_;clear n;go_wp2_with fail;refine hK.out _ _ (fun _=>hHeld) ?_;clear hK K;refine qtk 14 17 ?_;refine qone 15 fun K hK=>?_
 go_simp;have hHeld:=j.out _ (a.out.bel.alloc a.out.bel.size (.cells #[.int .i64 1,.slice none 0 0,.slice (some ⟨g1,0,none⟩) 0 0] b41));refine hK.out _ _ (fun _=>hHeld) ?_;clear hK K;refine qfr 16 2 ?_;refine qdon ?_;go_wp2_with fail;go_ret;exact⟨⟨_,rfl⟩,HB.out.trans ((a.out.bel.alloc a.out.bel.size _).mono HB.out.size)⟩
def RS0(w:World)(s:Nat):Prop:=∃t a g b,(∃C,w.heap[s]? =some (.cells C b40 (0,0))/\C[0]? =some (.pointer (some ⟨t,0,none⟩))/\C[1]? =some (.pointer (some ⟨b,0,none⟩))/\C[2]? =some (.int .u64 0))/\RT0 w t a g/\RSn0 w b
theorem RS0.below{w w':World}{s:Nat}(h:RS0 w s)(b:Below w.heap.size w w'):RS0 w' s:=by
 obtain⟨t,a,g,f,⟨C,c,e⟩,h3,d⟩:=h;exact⟨t,a,g,f,⟨C,(b.block s (ltH c)).trans c,e⟩,h3.below b,d.below b⟩
theorem b1O(w:World):Calls Tryz.prog 65 #[] w fun e w'=>(∃s,e= .returned (.pointer (some ⟨s,0,none⟩))/\RS0 w' s)/\Below w.heap.size w w':=by
 have i:=qh (b3m w);go_enter Tryz.func65,Tryz.ntmps65;go_wp2_with fail;refine i.out.mono ?_;rintro e l ⟨⟨t,a,g,rfl,d⟩,hb1⟩;have j:=qh (b3n l);have f:=qh (aI d hb1);clear d hb1;go_wp2_with fail;refine j.out.mono ?_;rintro e w2 ⟨⟨m,rfl,c⟩,hb2⟩;have k:=qh (aI (f.out.1.below hb2) (aI c (f.out.2.trans (hb2.mono f.out.2.size))));clear c hb2;go_wp2_with fail;go_ret;obtain⟨d,c,h⟩:=k.out;have b:=fun o=>(Ab w2.heap.size w2).alloc (Aa _) o
 exact⟨⟨_,rfl,t,a,g,m,⟨_,Ae w2 _,rfl,rfl,rfl⟩,d.below (b _),c.below (b _)⟩,h.alloc h.size _⟩
theorem a8S{w:World}{s:Nat}(h:RS0 w s):Calls Tryz.prog 66 #[.pointer (some ⟨s,0,none⟩)] w fun e w'=>(∃c,e= .returned (.pointer (some ⟨c,0,none⟩)))/\Below w.heap.size w w':=by
 obtain⟨t,a,g,q,⟨C,m,v,h3,r⟩,n,x⟩:=h;obtain⟨wd,d⟩:=qnm w.drew;have f:Below w.heap.size w wd:=by rw[d];exact(Ab _ _).drew
 have l:=qh (show ∀W,Below wd.heap.size wd W->W.cell? ⟨s,0,none⟩=some (.pointer (some ⟨t,0,none⟩))/\W.cell? ⟨s,1,none⟩=some (.pointer (some ⟨q,0,none⟩))/\W.cell? ⟨s,2,none⟩=some (.int .u64 0) from fun W B=>have p:=f.trans (B.mono f.size);have o:=(p.block s (ltH m)).trans m;⟨(a0a o 0).trans v,(a0a o 1).trans h3,(a0a o 2).trans r⟩);have HB:=qh (aI f (aI (n.below f) (x.below f)));have u:=qh (a6X (n.below f));clear m v h3 r n x f;go_enter Tryz.func66,Tryz.ntmps66;go_upto_region 1 with fail
 refine a0h (fun i=>List.contains (List.range 16) i) (fun W=>W.cell? ⟨s,0,none⟩=some (.pointer (some ⟨t,0,none⟩))/\W.cell? ⟨s,1,none⟩=some (.pointer (some ⟨q,0,none⟩))/\W.cell? ⟨s,2,none⟩=some (.int .u64 0)) (by kernel_rfl) ?_ (fun hHeld=>?_)
 ·rw[<-d];exact l.out _ (Ab _ _)
 rw[<-d] at hHeld⊢;clear d;refine qtk 0 3 ?_;refine qtk 1 4 ?_;refine qtk 2 5 ?_;refine qtk 3 6 ?_;refine qtk 5 8 ?_;refine qtk 6 9 ?_;refine qtk 7 10 ?_;refine qtk 8 11 ?_;refine qtk 10 13 ?_;refine qtk 11 14 ?_;refine qtk 12 15 ?_;refine qtk 13 16 ?_;refine qone 4 fun K hK=>?_
 go_simp;refine u.out.mono ?_;rintro e D ⟨⟨A,rfl⟩,hb1⟩;have hHeld:=l.out D hb1;have k:=qh hb1;have j:=qh (b1P (HB.out.2.2.below hb1));clear hb1 u;go_wp2_with fail;refine hK.out _ _ (fun _=>hHeld) ?_;clear hK K;refine qone 9 fun K hK=>?_
 go_simp;refine j.out.mono ?_;rintro e y ⟨⟨z,rfl⟩,hb2⟩;have b:=qh (k.out.trans (hb2.mono k.out.size));have hHeld:=l.out y b.out;clear hb2 j;go_wp2_with fail;refine hK.out _ _ (fun _=>hHeld) ?_;clear hK K;refine qtk 14 17 ?_;refine qone 15 fun K hK=>?_
 go_simp;have hHeld:=l.out _ (b.out.alloc b.out.size (.cells #[.pointer (some ⟨A,0,none⟩),.pointer (some ⟨z,0,none⟩),.int .u64 0,.int .i64 0,.int .i64 0,.slice none 0 0,.int .i64 0,.int .i64 0,.slice none 0 0,.int .i64 0,.int .i64 0,.slice none 0 0,.int .i64 0,.int .i64 0,.slice none 0 0,.int .i64 0,.int .i64 0,.slice none 0 0,.int .i64 0,.int .i64 0,.slice none 0 0,.int .i64 0,.int .i64 0,.slice none 0 0,.int .i64 0,.int .i64 0,.slice none 0 0] b40));refine hK.out _ _ (fun _=>hHeld) ?_;clear hK K;refine qfr 16 2 ?_;refine qdon ?_;go_wp2_with fail;go_ret;exact⟨⟨_,rfl⟩,HB.out.1.trans ((b.out.alloc b.out.size _).mono HB.out.1.size)⟩
abbrev a8z:TypeId:=129
theorem a8V{w:World}{v:Nat}{s c:Value}{a:Int}(b:w.heap[v]? =some (.cells #[s,.int .i64 a,.int .i64 0,.int .i64 0,.int .i64 0,.int .u64 1,c,.int .i64 0] a8z (0,0)))(f:1<=a/\a<=65535):
  Calls Tryz.prog 67 #[.pointer (some ⟨v,1,none⟩),.int .i64 15] w fun e w'=>e= .returned (.bool true)/\Chg (fun k=>k=v) w w':=by
 have j:w.cell? ⟨v,1,none⟩=some (.int .i64 a):=a0a b 1;have n:w.cell? ⟨v,2,none⟩=some (.int .i64 0):=a0a b 2;have o:w.cell? ⟨v,3,none⟩=some (.int .i64 0):=a0a b 3;have g:w.cell? ⟨v,4,none⟩=some (.int .i64 0):=a0a b 4;have m:w.cell? ⟨v,5,none⟩=some (.int .u64 1):=a0a b 5;have h:=a0e b 3;have q:=a0e b 4;have i:=a0e b 5;have d:¬a<=0:=by omega
 have l:decide (a<=0)=false:=Aq d;clear b f;go_enter Tryz.func67,Tryz.ntmps67;go_upto_region 1 with fail
 refine a0K 8 (by kernel_rfl) (by kernel_rfl) rfl ?_;simp only[qtc,a3E];repeat still_step
 refine AK ?_;go_wp2_with fail;go_ret;exact⟨rfl,(((Chg.refl (fun k=>k=v) w).drew.setCell (p:=⟨v,3,none⟩) (fun _=>rfl) _).setCell (p:=⟨v,4,none⟩) (fun _=>rfl) _).setCell (p:=⟨v,5,none⟩) (fun _=>rfl) _⟩
abbrev b73:TypeId:=123
theorem b3l(w:World)(a:Int)(C:1<=a/\a<=65535):Calls Tryz.prog 27 #[.int .i64 a] w fun e w'=>(∃v,e= .returned (.pointer (some ⟨v,0,none⟩)))/\Below w.heap.size w w':=by
 have z:=qh (b1O w);have H:=qh C;clear C;go_enter Tryz.func27,Tryz.ntmps27;go_wp2_with fail;refine z.out.mono ?_;rintro e x ⟨⟨s,rfl,D⟩,hb1⟩;obtain⟨w2,f⟩:=qnm (x.alloc (.cells #[.pointer (some ⟨s,0,none⟩),.int .i64 a,.int .i64 0,.int .i64 0,.int .i64 0,.int .u64 1,.slice none 0 0,.int .i64 0] a8z));obtain⟨v,hv⟩:=qnm x.heap.size;have hb2:=qba f;have l:w2.heap[v]? =some (.cells #[.pointer (some ⟨s,0,none⟩),.int .i64 a,.int .i64 0,.int .i64 0,.int .i64 0,.int .u64 1,.slice none 0 0,.int .i64 0] a8z (0,0)):=by rw[f,hv];exact Ae x _
 have G:w2.cell? ⟨v,0,none⟩=some (.pointer (some ⟨s,0,none⟩)):=a0a l 0;have i:=qh (aI l (aI (hb1.trans (hb2.mono hb1.size)) (show w.heap.size<=v by rw[hv];exact hb1.size)));have m:=qh (a8S (D.below hb2));have A:=qh (aI f hv);clear D hb1 f hv hb2 l z;go_upto_region 2 with fail
 rw[<-A.out.1,<-A.out.2];go_wp2_with fail;refine m.out.mono ?_;rintro e q ⟨⟨t,rfl⟩,hb3⟩;obtain⟨I,b⟩:=qnm (q.alloc (.cells #[.pointer (some ⟨t,0,none⟩)] b73));have hb4:=qba b;obtain⟨g,B⟩:=qnm q.heap.size;have j:=(hb3.block v (ltH i.out.1)).trans i.out.1;have d:=(hb4.block v (ltH j)).trans j;clear G;have J:(q.alloc (.cells #[.pointer (some ⟨t,0,none⟩)] b73)).cell? ⟨v,6,none⟩=some (.slice none 0 0):=by rw[<-b];exact a0a d 6
 have L:(q.alloc (.cells #[.pointer (some ⟨t,0,none⟩)] b73)).frozen? ⟨v,6,none⟩=false:=by rw[<-b];exact a0e d 6
 obtain⟨w5,c⟩:=qnm (I.setCell ⟨v,6,none⟩ (.slice (some ⟨g,0,none⟩) 1 1));have n:w5.heap[v]? =some (.cells #[.pointer (some ⟨s,0,none⟩),.int .i64 a,.int .i64 0,.int .i64 0,.int .i64 0,.int .u64 1,.slice (some ⟨g,0,none⟩) 1 1,.int .i64 0] a8z (0,0)):=by
  rw[c];have e:=a0f (k:=6) (y:=.slice (some ⟨g,0,none⟩) 1 1) d;simp only[Aw,qz] at e;exact e
 have h:=hb3.trans (hb4.mono hb3.size);have hb5:Below w.heap.size w w5:=by
  rw[c];exact(i.out.2.1.trans (h.mono i.out.2.1.size)).setCell (p:=⟨v,6,none⟩) i.out.2.2 _
 have u:=qh (aI hb5 i.out.2.2);have r:=qh (a8V n H.out);rw[b] at c;have o:=qh (aI c B);clear hb3 b hb4 j d c n h hb5 m i B;go_upto_region 3 with fail
 rw[<-o.out.2,<-o.out.1];go_wp2_with fail;refine r.out.mono ?_;rintro e K ⟨rfl,E⟩;have F:=qh (u.out.1.trans (E.below u.out.1.size (fun k _ e=>by rw[e];exact u.out.2)));clear E;go_wp2_with fail;go_ret;exact⟨⟨v,rfl⟩,F.out⟩
end
end Go.Proofs.YtbemfdcjieakdaaGreatDoor
