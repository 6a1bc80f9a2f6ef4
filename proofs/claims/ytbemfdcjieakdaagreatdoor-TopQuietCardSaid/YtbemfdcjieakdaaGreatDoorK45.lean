/- SnForget; TreeDeep; TreeRen; StAt2. -/
import Derived.Test.YtbemfdcjieakdaaGreatDoorK44
set_option maxRecDepth 100000
set_option maxHeartbeats 8000000
namespace Go.Proofs.YtbemfdcjieakdaaGreatDoor
section
open Go.RowKit Go.ChangeMaps Go.MapKept
variable {w : World} {L B C sn c : Nat} {S : SnS}
def b0K(w:World)(L B c sn:Nat)(e:Ending)(w':World):Prop:=
 ∃(a:Nat) (S':SnS),e= .returned (.int .i64 (a:Int))/\SnGd c S'/\Chg (SM w B) w w'/\SnapsAt w' L L w'.heap.size sn S'
theorem a5j{d:Type}:∀(L:List (List d)) (k:Nat),(∀x∈L,x.length=3)->L.flatten.take (k * 3)=(L.take k).flatten/\L.flatten.drop (k * 3)=(L.drop k).flatten
 | [],k,_=>by simp
 | x :: L,0,_=>by simp
 | x :: L,k+1,h=>by
  have f:=h x (AL ..);obtain⟨b,c⟩:=a5j L k (fun y a=>h y (AI _ a));have e:(k+1) * 3=x.length+k * 3:=by omega
  rw[Bg,e,List.take_length_add_append,List.drop_length_add_append,b,c];simp
theorem b6R{l:List Sn}{b:List (Value×Nat)}:∀x∈List.zipWith a0U l b,x.length=3:=fun x a=>by
 rw[<-BK] at a;obtain⟨⟨s,p⟩,_,rfl⟩:=AX.1 a;rfl
theorem b0z{W:World}{B k n h g Z:Nat}{S:SnS}{A:Value}{o:Addr}(q:List (Value×Nat))(t:W.ownsRow B a3d 3 A S.l.length ((List.zipWith a0U S.l q).flatten))(H:q.length=S.l.length)(w:∀u∈(List.zipWith a0U S.l q).flatten,u.oneCell'=true)(z:A= .slice (some ⟨g,0,none⟩) n h)
  (y:W.heap[Z]? =some (.cells #[.slice (some ⟨g,0,none⟩) k h,.slice (some o) (n - (k+1)) (h - (k+1))] 241 (0,0))) (C:n=S.l.length) (hk:k+1<=n) (F:n<=h) (M:n<=8) (b:(if h=k+1 then some (⟨g,0,none⟩:Addr) else some ⟨g,(k+1) * 3,none⟩)=some o):
  Calls Tryz.prog 173 #[.slice (some ⟨Z,0,none⟩) 2 2] W fun e w'=>∃v,e= .returned v/\w'.ownsRow W.heap.size a3d 3 v (S.l.eraseIdx k).length ((List.zipWith a0U (S.l.eraseIdx k) (q.eraseIdx k)).flatten)/\Below W.heap.size W w':=by
 subst z;obtain⟨a,f⟩:=qnm ((List.zipWith a0U S.l q).flatten);rw[<-f] at t w;have m:a.length=n * 3:=by rw[t.1,C]
 rw[<-C] at t;have s:g<W.heap.size:=by
  rcases t.2 with⟨e,_⟩ | ⟨O,cap,G,e,_,E,_⟩
  ·cases e
  ·injection e with e;injection e with e;injection e with e;rw[e];exact ltH E
 have d:∀j,j<n * 3->W.cell? ⟨g,j,none⟩=a[j]?:=fun j r=>A1 (size:=3) t j r
 have x:=b0E W Z 2 2 [(⟨g,0,none⟩,k,h,a.take (k * 3)),(o,n - (k+1),h - (k+1),a.drop ((k+1) * 3))] rfl ⟨ltH y,fun i J=>by
  match i,J with
  | 0,_=>
   refine⟨a0a y 0,⟨?_,s,fun j u p=>?_,fun u p=>w u (Bv p)⟩⟩
   ·show(a.take (k * 3)).length=k * 3;rw[Av,m];omega
   ·have r:j<k * 3:=by
     have:=(AG.1 p).1;have N:j<(a.take (k * 3)).length:=this;rw[Av] at N;omega
    have c:(a.take (k * 3))[j]? =some u:=p;rw[AS,Ah r] at c;show W.cell? ((⟨g,0,none⟩:Addr).add j)=some u;rw[Addr.add_mid,AD,d j (by omega)];exact c
  | 1,_=>
   refine⟨a0a y 1,⟨?_,?_,fun j u p=>?_,fun u p=>w u (List.mem_of_mem_drop p)⟩⟩
   ·show(a.drop ((k+1) * 3)).length=(n - (k+1)) * 3;rw[B9,m];omega
   ·show o.block<W.heap.size;split at b <;>(injection b with b;rw[<-b];exact s)
   ·have c:(a.drop ((k+1) * 3))[j]? =some u:=p;have r:=(AG.1 c).1;rw[B9,m] at r;rw[CA] at c;have e:o=⟨g,(k+1) * 3,none⟩:=by
     rw[Ag (by omega)] at b;injection b with b;exact b.symm
    show W.cell? (o.add j)=some u;rw[e,Addr.add_mid,d _ (by omega)];exact c⟩ (by show k+(n - (k+1)+0)<=1000;omega) (by decide)
 refine x.mono ?_;rintro e w' ⟨v,rfl,D,L⟩;refine⟨v,rfl,?_,L⟩;have I:rwN [((⟨g,0,none⟩:Addr),k,h,a.take (k * 3)),(o,n - (k+1),h - (k+1),a.drop ((k+1) * 3))]=(S.l.eraseIdx k).length:=by
  rw[B4,Ah (by omega)];show k+(n - (k+1)+0)=_;omega
 have K:rwC [((⟨g,0,none⟩:Addr),k,h,a.take (k * 3)),(o,n - (k+1),h - (k+1),a.drop ((k+1) * 3))]=(List.zipWith a0U (S.l.eraseIdx k) (q.eraseIdx k)).flatten:=by
  show a.take (k * 3) ++(a.drop ((k+1) * 3) ++[])=_;rw[By,f,(a5j _ k b6R).1,(a5j _ (k+1) b6R).2,List.eraseIdx_eq_take_drop_succ,List.eraseIdx_eq_take_drop_succ,List.zipWith_append (by rw[Av,Av,H]),AT,List.take_zipWith,List.drop_zipWith]
 rw[I,K] at D;exact D
theorem b0A{o:World}{H J:Value}{a:List (Value×Nat)}{k:Nat}{r:Option Addr}{q D:Nat}(I:L<=B)(E:SnGd c S)
  (V:B<=sn/\w.heap[sn]? =some (.cells #[H,.int .i64 (S.next:Int),J] a1A (0,0))/\Own w L J S.last/\a.length=S.l.length/\w.ownsRow B a3d 3 H S.l.length ((List.zipWith a0U S.l a).flatten)/\(∀i (h1:i<S.l.length) (P:i<a.length),Own w L a[i].1 S.l[i].hash/\∃b:World,b.heap.size=C/\Below C b w/\TreeAt b L L a[i].2 S.l[i].T)/\(∀u∈(List.zipWith a0U S.l a).flatten,u.oneCell'=true)/\w.cell? ⟨sn,0,none⟩=some H)
  (hk:k<S.l.length) (hb5:Below w.heap.size w o) (K:o.ownsRow L a3d 3 (.slice r q D) (S.l.eraseIdx k).length ((List.zipWith a0U (S.l.eraseIdx k) (a.eraseIdx k)).flatten)):
  b0K w L B c sn (.returned (.int .i64 0)) (o.setCell ⟨sn,0,none⟩ (.slice r q D)):=by
 obtain⟨t,A,P,h3,h4,h5,_,_⟩:=V;obtain⟨w6,n⟩:=qnm (o.setCell ⟨sn,0,none⟩ (.slice r q D));have z:=(hb5.block sn (ltH A)).trans A;have M:w6.heap[sn]? =some (.cells #[.slice r q D,.int .i64 (S.next:Int),J] a1A (0,0)):=by rw[n];exact a0f (k:=0) (y:=.slice r q D) z
 have x:∀W,Below W.heap.size W o->Chg (fun k=>k=sn) W w6:=fun W Z=>by rw[n];exact(Chg.of_below Z (fun k=>k=sn)).setCell (p:=⟨sn,0,none⟩) (fun _=>rfl) _
 have f:=x w hb5;have m:∀k,k<w.heap.size->k=sn->k<L∨a5o w k:=fun k _ e=>by
  subst e;refine .inr ⟨fun C2 a0 U d=>?_,fun es cl d=>by rw[A] at d;injection d with d;cases d⟩;rw[A] at d;injection d with d;injection d with _ d
  rw[<-d];decide
 rw[<-n];refine⟨0,⟨S.l.eraseIdx k,S.next,S.last⟩,rfl,⟨?_,fun s a=>E.one s (List.mem_of_mem_eraseIdx a),E.nx,E.last⟩,f.mono (fun i _ e=>by subst e;exact⟨t,_,_,_,A,.inl rfl⟩),?_⟩
 ·show(S.l.eraseIdx k).length<=8;have:=E.len;rw[B4];split <;>omega
 ·refine⟨Ad I t,_,_,a.eraseIdx k,M,P.alien f m,by rw[B4,B4,h3],a4m K (x o (Ab _ _)) (fun g C fr h e=>by rw[e] at h;exact absurd (a5Q h z) (by decide)),fun i i1 i2=>?_⟩;have N:i<(S.l.eraseIdx k).length:=i1;rw[B4,Ah hk] at N;have v:∀(j:Nat) (O:j<S.l.length) (Q:j<a.length),Own w6 L a[j].1 S.l[j].hash/\∃b:World,b.heap.size=w6.heap.size/\Below w6.heap.size b w6/\TreeAt b L L a[j].2 S.l[j].T:=fun j O Q=>by
   obtain⟨R,b,Y,k3,X⟩:=h5 j O Q;obtain⟨mb,F,G,hT⟩:=X.below (w':=w) (by rw[Y];exact k3);exact⟨R.alien f m,w6,rfl,Ab _ _,mb,F,G,hT.alien (Aa _) f m⟩
  show Own w6 L ((a.eraseIdx k)[i]).1 ((S.l.eraseIdx k)[i]).hash/\∃b:World,b.heap.size=w6.heap.size/\Below w6.heap.size b w6/\TreeAt b L L ((a.eraseIdx k)[i]).2 ((S.l.eraseIdx k)[i]).T
  rw[List.getElem_eraseIdx,List.getElem_eraseIdx];split
  ·exact v i (by omega) (by omega)
  ·exact v (i+1) (by omega) (by omega)
theorem b2i(h:SnapsAt w L B C sn S)(aa:L<=B)(hB:B<=w.heap.size)(hC:C<=w.heap.size)(gs:SnGd c S)(hc:c<=60000)(id:Int)(V:Nat):
  Calls Tryz.prog 93 #[.pointer (some ⟨sn,0,none⟩),.int .i64 id,.int .u64 (V:Int)] w fun e w'=>b0K w L B c sn e w':=by
 have a0:=qh (b1l h id (by have:=gs.len;omega));have h':=h;obtain⟨a8,lv,av,hs,hz,h2,h3,h4,h5⟩:=h';have z:w.cell? ⟨sn,0,none⟩=some lv:=a0a hz 0;have o:=a55 S.l hs (fun p hp=>by
  obtain⟨i,hi,rfl⟩:=Bi hp;exact(h5 i (by omega) hi).1.oneCell)
 have am:=h2.oneCell;have A:=qh (aI a8 (aI hz (aI h2 (aI h3 (aI h4 (aI h5 (aI o z)))))));clear a8 hz h2 h3 h4 h5 o z am;have d:=qh (aI h (aI aa (aI hB (aI hC (aI gs hc)))));clear h gs hB hC aa;go_enter Tryz.func93,Tryz.ntmps93;go_wp2_with fail;refine a0.out.mono ?_;rintro e w1 ⟨⟨k,rfl,hk⟩,hb1⟩;clear a0;have J:=qh (d.out.1.below d.out.2.2.2.1 hb1);have f:=qh hb1;have M:=qh (fun W (hb:Below w1.heap.size w1 W) (a9:Nat)=>show b0K w L B c sn (.returned (.int .i64 (a9:Int))) W from by
  have hb2:=f.out.trans (hb.mono f.out.size);exact⟨a9,S,rfl,d.out.2.2.2.2.1,Chg.of_below hb2 _,(d.out.1.below d.out.2.2.2.1 hb2).frozen d.out.2.1⟩)
 clear hb1;rcases hk with rfl | ⟨an,ah⟩
 ·go_wp2_with fail;go_ret;exact M.out w1 (Ab _ _) 29
 obtain⟨k,rfl⟩:∃j:Nat,k=(j:Int):=⟨k.toNat,by omega⟩
 have r:k<S.l.length:=by omega
 obtain⟨la,m,Q,a7,N,a4⟩:=J.out.at;obtain⟨g,rfl,_,hg,D⟩:=a4 (by omega);obtain⟨hv,t,k0,k1,k2,hO,hT⟩:=D k r;obtain⟨n,hn⟩:=qnm S.l.length;rw[<-hn] at Q a7 ah;have ap:m<=9223372036854775807:=Ad N (by unfold maxLen;decide);obtain⟨mb,F,G,hT⟩:=hT;have ac:=qh (show lv= .slice (some ⟨g,0,none⟩) n m from Option.some.inj ((((f.out.cell (p:=⟨sn,0,none⟩) (ltH A.out.2.1)).trans A.out.2.2.2.2.2.2.2).symm).trans Q));have X:=qh (b4M hT (d.out.2.2.2.2.1.one _ (AE r)).1 hc V);have HN:=qh (aI hn (aI r N));clear hT D a4 hO k0 k1 N;go_wp2_with fail;refine X.out.mono ?_;rintro e w2 ⟨⟨b,rfl⟩,hb2⟩;have aj:=qh hb2;cases b with
 | true=>
  clear hb2;go_wp2_with fail;go_ret;exact M.out w2 aj.out 28
 | false=>
 have E:=f.out.trans (hb2.mono f.out.size);have U:=qh (J.out.below (Ad d.out.2.2.2.1 f.out.size) hb2);have Q:w2.cell? ⟨sn,0,none⟩=some (.slice (some ⟨g,0,none⟩) n m):=(hb2.cell (p:=⟨sn,0,none⟩) (by have:=J.out;obtain⟨_,_,_,_,I,_⟩:=this;exact ltH I)).trans Q;have a:=qh E;have ak:=qh (Ai hg hb2.size);clear hb2 E M X hg k2;obtain⟨ad,a6⟩:∃ad:Addr,(if m=k+1 then some (⟨g,0,none⟩:Addr) else some ⟨g,(k+1) * 3,none⟩)=some ad:=by split <;>exact ⟨_,rfl⟩
 have a2:=qh a6;have Y:=qh (show k<=m/\(0<=(k:Int)+1/\(k:Int)+1<=(n:Int))/\m<=maxLen/\n<=m/\n<=8/\k+1<=n from⟨by omega,⟨by omega,by omega⟩,HN.out.2.2,a7,by rw[hn];exact d.out.2.2.2.2.1.len,by omega⟩);have ab:=qh (show IntKind.i64.wrap ((k:Int)+1)=(k:Int)+1/\((k:Int)+1).toNat=k+1 from⟨by rw[Ak _ (by omega)],by omega⟩);clear a6 hn r;go_upto_region 6 with fail
 obtain⟨w3,s⟩:=qnm w2.drew;have hb3:Below w2.heap.size w2 w3:=by rw[s];exact(Ab _ _).drew
 have a1:=(hb3.cell (p:=⟨sn,0,none⟩) (by obtain⟨_,_,_,_,I,_⟩:=U.out;exact ltH I)).trans Q;have x:=qh hb3;have a3:=qh (U.out.below (Ad d.out.2.2.2.1 a.out.size) hb3);have ao:=qh (Ai ak.out hb3.size);refine a0h (fun i=>List.contains (List.range 16) i) (fun w'=>w'.cell? ⟨sn,0,none⟩=some (.slice (some ⟨g,0,none⟩) n m)) (by kernel_rfl) ?_ (fun hHeld=>?_)
 ·rw[<-s];exact a1
 rw[<-s] at hHeld⊢;clear s hb3 a1 Q;refine qtk 0 25 ?_;refine qtk 1 26 ?_;refine qtk 2 27 ?_;refine qtk 3 28 ?_;refine qtk 4 29 ?_;refine qtk 5 30 ?_;refine a4a (i:=6) (v:=?_) 31 rfl (by kernel_rfl) (by kernel_rfl) (by kernel_rfl) (by kernel_rfl) (fun _ _ _ h=>h) rfl (by assumption) (Or.inl ⟨by rfl,?_⟩) ?_;rotate_left
 ·intro w H;(try dsimp only at H);go_simp;rw[Ah Y.out.1]
 simp only[qz];refine qtk 7 32 ?_;refine qtk 8 33 ?_;refine qtk 9 34 ?_;refine qtk 10 35 ?_;refine qtk 11 36 ?_;refine qtk 12 37 ?_;refine a4a (i:=13) (v:=?_) 38 rfl (by kernel_rfl) (by kernel_rfl) (by kernel_rfl) (by kernel_rfl) (fun _ _ _ h=>h) rfl (by assumption) (Or.inl ⟨by rfl,?_⟩) ?_;rotate_left
 ·intro w H;(try dsimp only at H);go_simp;rw[ab.out.1,ab.out.2,Ah Y.out.2.1,a2.out]
 simp only[qz];refine qone 14 fun K hK=>?_
 go_simp;obtain⟨w4,y⟩:=qnm (w3.alloc (.cells #[.slice (some ⟨g,0,none⟩) k m,.slice (some ad) (n - (k+1)) (m - (k+1))] 241));obtain⟨Z,hZ⟩:=qnm w3.heap.size;have hb4:=qba y;have T:w4.heap[Z]? =some (.cells #[.slice (some ⟨g,0,none⟩) k m,.slice (some ad) (n - (k+1)) (m - (k+1))] 241 (0,0)):=by rw[y,hZ];exact Ae _ _
 have q:=a.out.trans ((x.out.trans (hb4.mono x.out.size)).mono a.out.size);have HC:=qh (b0z hs (a1t A.out.2.2.2.2.1 q) A.out.2.2.2.1 A.out.2.2.2.2.2.2.1 ac.out T HN.out.1 Y.out.2.2.2.2.2 Y.out.2.2.2.1 (by have:=Y.out;omega) a2.out);have hHeld:=(hb4.cell (p:=⟨sn,0,none⟩) (by obtain⟨_,_,_,_,I,_⟩:=a3.out;exact ltH I)).trans hHeld;have P:=qh hb4;have ae:=qh (Ad d.out.2.1 (Ad d.out.2.2.1 q.size));rw[<-y,<-hZ];clear q hb4 T y hZ;refine hK.out _ _ (fun _=>hHeld) ?_;clear hK K;refine qone 15 fun K hK=>?_
 go_simp;refine HC.out.mono ?_;rintro e w5 ⟨v5,rfl,u,hb5⟩;obtain⟨a5,n5,c5,ag⟩:=a1s u;subst ag;have hHeld:=(hb5.cell (p:=⟨sn,0,none⟩) (Ai (by obtain⟨_,_,_,_,I,_⟩:=a3.out;exact ltH I) P.out.size)).trans hHeld;have af:=qh (show w5.ownsRow L _ _ _ _ _ from⟨u.1,u.2.imp (fun h=>h) (fun⟨g,cap,ai,h5,h6,h7⟩=>⟨g,cap,ai,h5,Ad ae.out h6,h7⟩)⟩);have R:=qh (a.out.trans ((x.out.trans ((P.out.trans (hb5.mono P.out.size)).mono x.out.size)).mono a.out.size));clear u hb5 HC;go_wp2_with fail;refine hK.out _ _ (fun _=>hHeld) ?_;clear hK K;refine qfr 16 41 ?_;refine qfr 17 42 ?_;refine qone 18 fun K hK=>?_
 have O:=(R.out.block sn (ltH A.out.2.1)).trans A.out.2.1;have cv:=hHeld;have fv:=a0e O 0;have al:=ltH O;clear O;go_simp;refine hK.out _ _ (fun h=>by simp at h) ?_;clear hK K;refine qdon ?_;clear hHeld;clear cv fv al;go_wp2_with fail;go_ret;exact b0A d.out.2.1 d.out.2.2.2.2.1 A.out HN.out.2.1 R.out af.out
end
section
open Go.RowKit Go.ChangeMaps Go.MapKept Go.Maps
variable {L B t mb c : Nat} {F G : Nat → Nat} {T : Tr} {w0 : World}
theorem a9v{w:World}(h:TreeIn w L B t mb F G T)(i:Nat)(x:It)(a:getK i T=some x)(hk:x.n.kind≠2)(o:i<=60000):
  Calls Tryz.prog 167 #[.pointer (some ⟨t,0,none⟩),.int .i64 (i:Int)] w fun e w'=>(∃d:Int,e= .returned (.int .i64 d))/\Below w.heap.size w w':=by
 have q:=h.cell0;have c:=h.hit a (by omega);obtain⟨_,v,m,g,_,_,f⟩:=h.item i x a;obtain⟨rfl,_⟩:=f hk;obtain⟨_,_,_,_,_,_,_,p⟩:=a0m g;have j:=run_range_nilMap (P:=Tryz.prog) w 231 a3c TI64 a1y;have k:∀b,(Instr.next (.pointer (some ⟨w.heap.size,0,none⟩)) false b).run Tryz.prog (w.alloc (.mapIter none 0 #[] 0))=_:=fun b=>run_next_nilMap w b 0 0 #[]
 have l:=qh ((Ab w.heap.size w).alloc (Aa _) (.mapIter none 0 #[] 0));clear h a hk o g f;go_enter Tryz.func167,Tryz.ntmps167;go_wp2;refine BQ 1 ?_;rw[A0];go_wp2;go_ret;exact⟨⟨_,rfl⟩,l.out⟩
def b8c(w0:World)(t:Nat)(T:Tr)(a:Nat->Nat)(N:Nat):Prop:=∀(i:Nat) (x:It) (w:World),getK i T=some x->(x.n.kind=2->a i<=N)->Below w0.heap.size w0 w->
 Calls Tryz.prog 167 #[.pointer (some ⟨t,0,none⟩),.int .i64 (i:Int)] w fun e w'=>(∃d:Int,e= .returned (.int .i64 d))/\Below w.heap.size w w'
theorem a9u(h:TreeIn w0 L B t mb F G T)(S:TGd c T)(hc:c<=60000)(ht:Nat->Nat)(Q:∀i k,EdgeT T i k->ht k<ht i)(N:Nat)(E:∀N',N=N'+1->b8c w0 t T ht N'):b8c w0 t T ht N:=by
 intro i x w H a1 hb;have q:=h.below hb;have hi:=(S.1.nd i x H).1;by_cases z:x.n.kind=2;rotate_left
 ·exact a9v q i x H z (by omega)
 have c0:=q.cell0;have a2:=q.hit H (by omega);obtain⟨_,v,m,h2,_,h4,_⟩:=q.item i x H;obtain⟨rfl,_,hM⟩:=h4 z;obtain⟨_,_,_,_,_,_,_,d7⟩:=a0m h2;obtain⟨n,hn⟩:=qnm ((vals a3v x.names).length);have K:=S.2.uq.2 i x H;have o:∀(s:List UInt8) (k:Nat),getK s x.names=some k->∀W,Below w0.heap.size w0 W->Calls Tryz.prog 167 #[.pointer (some ⟨t,0,none⟩),.int .i64 (k:Int)] W fun e w'=>(∃d:Int,e= .returned (.int .i64 d))/\Below W.heap.size W w':=fun s k hs W hW=>by
  obtain⟨⟨y,hy⟩,_,_⟩:=S.1.nm i x s k H hs;by_cases Z:y.n.kind=2
  ·have a8:=Q i k ⟨x,s,y,H,z,hs,hy,Z⟩;have:=a1 z;cases N with
   | zero=>omega
   | succ N=>exact E N rfl k y W hy (fun _=>by omega) hW
  ·exact a9v (h.below hW) k y hy Z (by have:=(S.1.nd k y hy).1;omega)
 have HK:=qh (aI o hb);have HM:=qh (aI hM hn);clear h S Q E a1 H h2 h4 q z hi o hM hn hb K;go_enter Tryz.func167,Tryz.ntmps167;go_wp2_with (first
  | (at_range;refine wpList_range_own _ rfl _ 231 rfl a3c _ a3f a1y RH (G i) n _ rfl (by rw[HM.out.2];exact HM.out.1) ?_;intro wa r A I)
  | fail)
 obtain⟨r0,j⟩:=qnm w.heap.size;rw[<-j] at r⊢;have P:=qh (aI j (aI A I));have C:=qh r;clear j A I r c0 a2 d7;go_frame;go_loopw [5,7] (fun m _ wx=>∃(left:Lit->Bool) (O:Nat) (d:Int),m= .int .i64 d/\wx.ranges Tryz.prog a3c RH (G i) r0 n (a3o a0L (vals a3v x.names)) left O/\Below w.heap.size w wx/\r0<wx.heap.size)
  (fun _ _ wx=>wx.rangeLeft (G i) r0)
 case atStart=>
  obtain⟨j,A,I⟩:=P.out;have hb0:Below w.heap.size w wa:=(Ab _ w).grown A (Aa _) (fun k hk=>by cases hk);exact⟨_,_,0,rfl,C.out,hb0,by omega⟩
 case round=>
  obtain⟨left,O,d,rfl,g,u,f⟩:=hrel;clear C;go_wp2_with (first
   | (at_next;refine wpList_next_ranges _ rfl _ rfl a3c a3f RH Value.string (fun v=>v) (fun a9 kl hk=>by obtain⟨x,rfl,_⟩:=a2E hk;exact⟨x,rfl⟩) (fun v _ _=>⟨v,rfl⟩) (G i) r0 n _ _ _ rfl g ?_ ?_)
   | fail)
  ·intro _ a7;have HF:=qh u;clear g u a7 f;go_wp2_with fail;go_ret;exact⟨⟨_,rfl⟩,HF.out⟩
  ·intro xk cv kl y ps w1 R D a5 V Y b p l J a6;obtain⟨s,rfl,rfl,M⟩:=a6E (y:=(y,ps)) D V Y;rw[a1c] at M;obtain⟨kk,a3,rfl⟩:=AU.1 M;have a0:Chg (fun k=>k=r0) wr w1:=⟨l.os,l.tape,l.output,l.size,fun k hk K=>l.block k hk (fun e=>K (by injection e))⟩
   have j:=P.out.1;have hb1:Below w.heap.size w w1:=u.trans (a0.below u.size (fun k _ e=>by omega));have a4:=qh (HK.out.1 s kk a3 w1 (HK.out.2.trans (hb1.mono HK.out.2.size)));have U:=qh (aI g (aI b (aI hb1 (aI p (aI J f)))));unfold a3v at a6⊢;clear g b l J p Y V M D a5 a3 a0 j hb1 u f;go_wp2_with fail;refine a4.out.mono ?_;rintro e w2 ⟨⟨d2,rfl⟩,hb2⟩;have a:=qh hb2;clear hb2;go_wp2_with fail;go_roundw;case rel=>
    obtain⟨_,b,hb1,_,J,f⟩:=U.out;exact⟨_,R,_,rfl,b.kept (row:=none) ⟨a.out.os,a.out.tape,a.out.output,a.out.size,fun k hk _=>a.out.block k hk⟩ (by simp) (by simp),hb1.trans (a.out.mono hb1.size),by have:=a.out.size;omega⟩
   case measure=>
    obtain⟨g,b,_,p,_⟩:=U.out;have X:=b.kept (row:=none) ⟨a.out.os,a.out.tape,a.out.output,a.out.size,fun k hk _=>a.out.block k hk⟩ (by simp) (by simp);rw[X.left_eq,g.left_eq];omega
theorem b6D{w:World}(h:TreeIn w L B t mb F G T)(g:TGd c T)(j:c<=60000)(i:Nat)(x:It)(m:getK i T=some x):
  Calls Tryz.prog 167 #[.pointer (some ⟨t,0,none⟩),.int .i64 (i:Int)] w fun e w'=>(∃d:Int,e= .returned (.int .i64 d))/\Below w.heap.size w w':=by
 obtain⟨f,a⟩:=g.2.hgt;have b:∀N,b8c w t T f N:=fun N=>by
  induction N with
  | zero=>exact a9u h g j f a 0 (fun l e=>by cases e)
  | succ N k=>exact a9u h g j f a (N+1) (fun l e=>by cases e;exact k)
 exact b (f i) i x w m (fun _=>Aa _) (Ab _ _)
end
section
open Go.RowKit Go.ChangeMaps Go.MapKept
variable {w : World} {L B t mb c : Nat} {F G : Nat → Nat} {T : Tr}
theorem a9M(h:TreeIn w L B t mb F G T)(gd:TGd c T)(hc:c<=60000)(a:Option Addr)(n cap:Nat)(p:List (List UInt8))(hS:Ss w a n cap p)(hm:∀s∈p,s.length<=1000000)(hn:n<=100000)(b:Option Addr)(V g:Nat)(p2:List (List UInt8))(Q:Ss w b V g p2)(R:∀s∈p2,s.length<=1000000)(aw:V<=100000):
  Calls Tryz.prog 89 #[.pointer (some ⟨t,0,none⟩),.slice a n cap,.slice b V g] w fun e w'=>TPost w L B t mb c e w':=by
 have HF:=qh (a66 (w:=w.alloc (.cells #[.slice a n cap,.slice b V g] 37)) w.heap.size a b n cap V g p p2 (Ae w _) (hS.alloc _) hm (Q.alloc _) R);have aD:=qh (fun w' (E:Below w.heap.size w w')=>a2h (h.below E) gd.1 hc b V g p2 (Q.below E) R aw);have HP:=qh (fun w' (E:Below w.heap.size w w')=>a2h (h.below E) gd.1 hc a n cap p (hS.below E) hm hn);have HL:=qh (fun w' (E:Below w.heap.size w w')=>a39 (h.below E) gd.1 hc a n cap p (hS.below E) hm);have HT:=qh (fun w' (E:Below w.heap.size w w')=>h.below E);have hE:=qh ((Ext.refl w).alloc (.cells #[.slice a n cap,.slice b V g] 37));have af:=a3y gd.1 p 0 (by obtain⟨x,P,_⟩:=gd.1.root;exact⟨x,P⟩);have ab:=fun k=>a2Y (T:=T) (p:=p) (k:=k)
 have j:=qh (aI gd (aI af ab));have aE:=qh (aI hm R);have aA:=qh (aI hS (aI Q (aI hn aw)));clear h gd hS hm af ab Q R;go_enter Tryz.func89,Tryz.ntmps89;go_wp2_with fail;refine HF.out.mono ?_;rintro e w1 ⟨⟨f,rfl,au⟩,E⟩;have i:=qh (hE.out.step E);by_cases h0:f=0;rotate_left
 ·have h1:¬(f:Int)=0:=by omega
  go_wp2_with fail;go_ret;exact TPost.same (HT.out _ i.out.1) j.out.1 (TChg.of_below i.out.1) f
 subst h0;have aJ:=qh (au rfl);have am:=qh (HL.out w1 i.out.1);obtain⟨⟨H,q2⟩,hq⟩:∃q,q=a0I T 0 p:=⟨_,rfl⟩
 rw[<-hq] at am;have HQ:=qh hq.symm;clear E hq HF HL hE au;go_wp2_with fail;refine am.out.mono ?_;rintro e w2 ⟨rfl,rfl⟩;have l:=qh (HT.out _ i.out.1);by_cases h2:q2=0;rotate_left
 ·have h3:¬(q2:Int)=0:=by omega
  go_wp2_with fail;go_ret;exact TPost.same l.out j.out.1 (TChg.of_below i.out.1) q2
 subst h2;obtain⟨x,P⟩:=j.out.2.1 (by rw[HQ.out]);rw[HQ.out] at P;simp only at P;have hi:=(j.out.1.1.nd H x P).1;have c0:=l.out.cell0;have Y:=l.out.hit P (by omega);obtain⟨-,v,m,hz,-⟩:=l.out.item H x P;obtain⟨-,d1,d2,-⟩:=a0m hz;have HX:=qh P;have HI:=qh hi;have ah:H=0∨H≠0:=by omega
 rcases ah with M | M
 ·have ag:((H:Int) == 0)=true:=by simp[M]
  clear hz P hi d1 d2 M;go_wp2_with fail;go_ret;exact TPost.same l.out j.out.1 (TChg.of_below i.out.1) 1
 have ag:¬(H:Int)=0:=by omega
 have a1:=qh (a3i j.out.1.1 p2);have u:=qh (aD.out _ i.out.1);have ap:(a02 T p2).2=0->a0I T 0 p2.dropLast=((a02 T p2).1,0):=fun h=>by
  obtain⟨_,_,_,h2⟩:=a3i j.out.1.1 p2 h;have h3:(a0I T 0 p2.dropLast).2=0:=by
   unfold a02 at h;cases hl:p2.getLast? with
   | none=>rw [hl] at h;simp at h
   | some s=>
    rw[hl] at h;simp only at h;by_cases h4:(a0I T 0 p2.dropLast).2≠0
    ·rw[Ah h4] at h;exact absurd h h4
    ·omega
  rw[h2];exact Prod.ext rfl h3
 have a3:=qh ap;obtain⟨⟨r1,r2⟩,hr⟩:∃r,r=a02 T p2:=⟨_,rfl⟩
 rw[<-hr] at u a1 a3;have ac:=qh M;clear hr ap aD hz Y c0 d1 d2 M;by_cases h2:r2=0;rotate_left
 ·have h3:¬(r2:Int)=0:=by omega
  rw[a3h _ _ _ _ h2] at u;go_wp2_with fail;refine u.out.mono ?_;rintro e w2 ⟨rfl,hb2⟩;have aK:=qh (l.out.below hb2);have J:=qh (i.out.step hb2);clear hb2;go_wp2_with fail;go_ret;exact TPost.same aK.out j.out.1 (TChg.of_below J.out.1) r2
 subst h2;obtain⟨y,hy,a7,-⟩:=a1.out rfl;simp only at hy;have N:fineP p2=0->(p2.getLast?.getD []).length<=16:=fun hf=>by
  cases hl:p2.getLast? with
  | none=>simp
  | some s=>exact a4U ((a5k hf).1 s (BF hl))
 have N:=N aJ.out.2;rw[a2O] at u;obtain⟨s,hs⟩:=qnm (p2.getLast?.getD []);rw[<-hs] at u N;have W:=qh (aI hy (aI a7 (aI N (a3.out rfl))));clear hy a7 N hs P hi a1 a3;go_wp2_with fail;refine u.out.mono ?_;rintro e w2 ⟨rfl,hb2⟩;have C:=qh (l.out.below hb2);have J:=qh (i.out.step hb2);clear hb2 u;obtain⟨-,e7,hM⟩:=C.out.dir W.out.1 W.out.2.1;have an:=a4O hM s (by have:=W.out.2.2.1;omega);clear hM;obtain⟨gs,a2⟩:=qnm (getK s y.names);rw[<-a2] at an;have aG:=qh a2.symm;clear a2;go_upto_region 13 with fail
 go_cut [54] (fun v wx=>(∃bb,v= .bool bb/\(bb=false->x.n.kind=2->¬p <+:p2))/\Below w2.heap.size w2 wx);case first=>
  have c0:=C.out.cell0;have Y:=C.out.hit HX.out (by have:=HI.out;omega);obtain⟨-,v,m,hz,-⟩:=C.out.item H x HX.out;obtain⟨-,d1,-,-⟩:=a0m hz;rcases j.out.1.1.kind HX.out with hk | hk
  ·rw[hk] at d1;have HK:=qh hk;clear hz hk;go_wp2_with fail;go_meet;exact⟨⟨false,rfl,fun _ h=>by have:=HK.out;omega⟩,Ab _ _⟩
  ·rw[hk] at d1;have ao:=qh (b0c w2 a b n cap V g p p2 (aA.out.1.below J.out.1) (aA.out.2.1.below J.out.1));clear hz hk;obtain⟨bb,I⟩:=qnm (decide (p <+:p2));rw[<-I] at ao;have Z:=qh I;clear I;go_wp2_with fail;refine ao.out.mono ?_;rintro e w3 ⟨rfl,hb3⟩;have aL:=qh hb3;clear hb3;go_wp2_with fail;go_meet;exact⟨⟨bb,rfl,fun h _=>by have:=Z.out;rw[h] at this;simpa using this.symm⟩,aL.out⟩
 case rest=>
 obtain⟨⟨bb,rfl,I⟩,hb3⟩:=hcut;obtain⟨w3,aq⟩:=qnm wc;rw[<-aq] at hb3⊢;have K:=qh (C.out.below hb3);have U:=qh (J.out.step hb3);have Z:=qh I;clear hb3 aq wc I J C e7 an;cases bb with
 | true=>
  go_wp2_with fail;go_ret;exact TPost.same K.out j.out.1 (TChg.of_below U.out.1) 1
 | false=>
 cases gs with
 | some k=>
  simp only[B8,Bp];by_cases a0:k=H
  ·have aC:((k:Int) == (H:Int))=true:=by simp[a0]
   clear a0;go_wp2_with fail;go_ret;exact TPost.same K.out j.out.1 (TChg.of_below U.out.1) 0
  ·have aC:((k:Int) == (H:Int))=false:=by rw[Al];omega
   clear a0;go_wp2_with fail;go_ret;exact TPost.same K.out j.out.1 (TChg.of_below U.out.1) 21
 | none=>
 simp only[Ct,Bq];have ak:=qh (b6D K.out j.out.1 hc H x HX.out);go_wp2_with fail;refine ak.out.mono ?_;rintro e w4 ⟨⟨d,rfl⟩,hb4⟩;have ar:=qh (K.out.below hb4);have a5:=qh (U.out.step hb4);clear hb4 ak;obtain⟨D,hD⟩:=qnm (IntKind.i64.wrap ((V:Int)+d));have aN:=hD.symm;clear hD;by_cases h8:8<D
 ·go_wp2_with fail;go_ret;exact TPost.same ar.out j.out.1 (TChg.of_below a5.out.1) 3
 obtain⟨o,z,r,ad,aa,az,aH,ho,al,ai⟩:=j.out.2.2 H HQ.out (.inl ac.out);have av:r.length<=1000000:=aE.out.1 r (by rw[aa];simp);have a6:=HP.out _ a5.out.1;rw[ad,az,a2O] at a6;have X:=j.out.1.rename HX.out ac.out HQ.out ho ai W.out.1 W.out.2.2.2 W.out.2.1 aG.out W.out.2.2.1 (Z.out (by trivial));have aj:=qh a6;have HU:=qh (aI X (aI ho (aI al av)));clear ad aa az aH ho al ai av a6 X HP;go_wp2_with fail;refine aj.out.mono ?_;rintro e w5 ⟨rfl,hb5⟩;have a4:=ar.out.below hb5;obtain⟨w6,aM,S,ay⟩:=a8p a4 HU.out.2.1 HU.out.2.2.1 HU.out.2.2.2;obtain⟨-,e7,-⟩:=a4.dir HU.out.2.1 HU.out.2.2.1;obtain⟨z1,O,A,a8⟩:=HU.out.1;obtain⟨-,f7,-⟩:=S.dir O A;obtain⟨w7,aF,ax,aB⟩:=a6q (id:=H) S O A (show s.length<=1000000 by have:=W.out.2.2.1;omega) (by
  have h1:TrOk c (a01 T o ⟨z.n,z.b,a1K r z.names⟩):=j.out.1.1.delName HU.out.2.1 r;have:=(h1.nd r1 z1 O).2.2.2.2;omega)
 have ae:B<=G r1:=by obtain⟨_,v,m,_,_,k4,_⟩:=S.item r1 z1 O;exact(k4 A).2.1
 have a9:=qh (show TPost w L B t mb c (.returned (.int .i64 ((0:Nat):Int))) w7 from⟨0,rfl,⟨F,G,_,ax,a8⟩,(TChg.of_below (B:=B) a5.out.1).trans ((TChg.of_below (B:=B) hb5).trans (ay.trans (TChg.map aB ae)))⟩);clear a4 S ay O A a8 ax aB ae hb5 aj;go_wp2_with (first | (at_builtin;refine a1Q rfl _ _ _ _ rfl _ _ rfl rfl aM ?_) | (at_mapUpdate;refine a1b rfl _ _ _ _ (.inl rfl) _ _ _ rfl rfl rfl aF ?_) | fail);go_ret;exact a9.out
end
section
open Go.RowKit Go.ChangeMaps Go.MapKept
variable {w w' : World} {L B C s t sn c : Nat} {fp : Nat → Option Nat} {σ : StM}
theorem StAt.of(h:StIn w L B C s t sn fp σ)(a:L<=B):StAt w L L w.heap.size s σ:=⟨_,_,_,h.frozen a⟩
def b8S(w:World)(L c:Nat)(e:Ending)(w':World):Prop:=
 ((∃a:Nat,a≠0/\e= .returned (.tuple #[.pointer none,.int .i64 (a:Int)]))∨∃b T,e= .returned (.tuple #[.pointer (some ⟨b,0,none⟩),.int .i64 0])/\TreeAt w' L L b T/\TGd c T)/\Below w.heap.size w w'
theorem b3j(h:StIn w L B C s t sn fp σ)(f:SGd c σ)(q:c<=60000)(a:L<=B)(b:C<=B)(g:B<=w.heap.size)(id:Int):
  Calls Tryz.prog 155 #[.pointer (some ⟨s,0,none⟩),.int .i64 id] w fun e w'=>b8S w L c e w':=by
 by_cases o:id=0
 ·subst o;refine(b4T h).mono ?_;rintro e w' ⟨rfl,rfl⟩;exact⟨.inr ⟨t,σ.T,rfl,h.tree.weaken a,f.tr⟩,Ab _ _⟩
 ·have r:w.cell? ⟨s,1,none⟩=some (.pointer (some ⟨sn,0,none⟩)):=a0a h.cel 1;have p:=qh (b7L h.snaps f.sn q (Ad a g) (Ad b g) id);have m:=qh (aI f (Ad a g));clear h f a b g;go_enter Tryz.func155,Tryz.ntmps155;go_wp2_with fail;refine p.out.mono ?_;rintro e u ⟨rfl | ⟨n,k,hk,rfl,l⟩,d⟩
  ·have j:=qh d;clear d;go_wp2_with fail;go_ret2;exact⟨.inl ⟨29,by decide,rfl⟩,j.out⟩
  ·have i:=qh (aI d (aI (l.weaken m.out.2) (m.out.1.sn.one _ (AE hk)).1));clear d l;go_wp2_with fail;go_ret2;exact⟨.inr ⟨n,_,rfl,i.out.2.1,i.out.2.2⟩,i.out.1⟩
theorem a8J(h:StIn w L B C s t sn fp σ)(y:SGd c σ)(R:c<=60000)(v:L<=B)(l:C<=B)(E:B<=w.heap.size)(a:Option Addr)(n cap:Nat)(p:List (List UInt8))(Q:Ss w a n cap p)(P:∀s∈p,s.length<=1000000)(hn:n<=100000):
  Calls Tryz.prog 87 #[.pointer (some ⟨s,0,none⟩),.slice a n cap] w fun e w'=>SErr w L B s c e w':=by
 by_cases q:unlWhy σ p=0;rotate_left
 ·refine(a8H h y.tr.1 R l E a n cap p Q P q).mono ?_;rintro e w' ⟨rfl,D⟩;exact⟨_,σ,rfl,StAt.of (h.below (Ad l E) D) v,y.mono (As _),Fr.of D E⟩
 have o:=qh (a49 h y.tr.1 R (Ad l E) a n cap p Q P);have z:unlWhy σ p=if (a1u σ.T p).2≠0 then(a1u σ.T p).2 else wormRemove (a1u σ.T p).1 σ.now:=rfl
 have i:(a1u σ.T p).2=0/\wormRemove (a1u σ.T p).1 σ.now=0:=by
  rw[z] at q;by_cases e:(a1u σ.T p).2≠0
  ·rw[Ah e] at q;exact absurd q e
  ·rw[Ag e] at q;exact⟨by omega,q⟩
 obtain⟨mb,F,G,V⟩:=h.tree;have I:=qh (fun W (D:Below w.heap.size w W)=>a9L (V.below D) y.tr R a n cap p (Q.below D) P hn);generalize a1u σ.T p=nd at *;have d:=qh (aI h (aI y (aI v (aI l (aI E i.2)))));obtain⟨nd,r⟩:=nd;simp only at o d i;obtain rfl:r=0:=i.1;have H:=qh (fun w=>a5T nd σ.now w);clear h y Q P z q i V v;unfold Nd.cells at o H;go_enter Tryz.func87,Tryz.ntmps87;go_wp2_with fail;refine o.out.mono ?_;rintro e M ⟨rfl,hb1⟩;have A:=(Ab M.heap.size M).alloc (Aa _) (.cells #[.int .i64 nd.id,.int .i64 nd.kind,.int .i64 nd.links,.int .i64 nd.size,.int .u64 (nd.til:Int),.bool nd.closed] a2H);have hb2:=hb1.trans (A.mono hb1.size);have b:=Ae M (.cells #[.int .i64 nd.id,.int .i64 nd.kind,.int .i64 nd.links,.int .i64 nd.size,.int .u64 (nd.til:Int),.bool nd.closed] a2H);obtain⟨w2,u⟩:=qnm (M.alloc (.cells #[.int .i64 nd.id,.int .i64 nd.kind,.int .i64 nd.links,.int .i64 nd.size,.int .u64 (nd.til:Int),.bool nd.closed] a2H));rw[<-u] at hb2 b;have J:=qh u;have x:=qh hb2;have O:=qh b;clear A hb1 hb2 b u;go_upto_region 2 with fail
 rw[<-J.out];obtain⟨N,U⟩:=qnm M.heap.size;rw[<-U] at O⊢;clear U J;have b:=O.out;have n0:w2.cell? ⟨N,0,none⟩=some (.int .i64 nd.id):=a0a b 0;have n1:w2.cell? ⟨N,1,none⟩=some (.int .i64 nd.kind):=a0a b 1;have n2:w2.cell? ⟨N,2,none⟩=some (.int .i64 nd.links):=a0a b 2;have Z:w2.cell? ⟨N,3,none⟩=some (.int .i64 nd.size):=a0a b 3;have n4:w2.cell? ⟨N,4,none⟩=some (.int .u64 (nd.til:Int)):=a0a b 4;have X:w2.cell? ⟨N,5,none⟩=some (.bool nd.closed):=a0a b 5;have c2:w2.cell? ⟨s,2,none⟩=some (.int .u64 (σ.now:Int)):=a0a (d.out.1.below (Ad d.out.2.2.2.1 d.out.2.2.2.2.1) x.out).cel 2;clear b;go_upto_region 3 with fail
 refine a0K 5 (by kernel_rfl) (by kernel_rfl) rfl ?_;simp only[qtc,a3E];repeat still_step
 refine AK ?_;go_wp2_with fail;refine(H.out w2.drew).mono ?_;rintro e w3 ⟨rfl,hb3⟩;rw[d.out.2.2.2.2.2];have k:=qh (x.out.trans (((Ab _ w2).drew.trans hb3).mono x.out.size));have h3:=d.out.1.below (Ad d.out.2.2.2.1 d.out.2.2.2.2.1) k.out;have c0:w3.cell? ⟨s,0,none⟩=some (.pointer (some ⟨t,0,none⟩)):=a0a h3.cel 0;have HU:=qh (I.out w3 k.out);have H3:=qh h3;clear hb3 n0 n1 n2 Z n4 X c2 h3 I;go_wp2_with fail;refine HU.out.mono ?_;rintro e w4 ⟨r,rfl,⟨F',G',T',g,j⟩,f⟩;have Y:=qh (aI g (aI j f));clear g j f;go_wp2_with fail;go_ret;obtain⟨g,j,f⟩:=Y.out;have m:=d.out.2.1.mono (As c);have K:B<=w3.heap.size:=Ad d.out.2.2.2.2.1 k.out.size;exact⟨r,⟨T',σ.S,σ.now,σ.fds⟩,rfl,StAt.of (H3.out.setTree d.out.2.2.2.1 K f ⟨_,_,_,g⟩) d.out.2.2.1,⟨j,m.fd,m.sn,m.now⟩,(Fr.of k.out d.out.2.2.2.2.1).trans (Fr.tchg f K)⟩
end
end Go.Proofs.YtbemfdcjieakdaaGreatDoor
