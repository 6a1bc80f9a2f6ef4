/- StSave; StSave2; StFd; StFree. -/
import Derived.Test.YtbemfdcjieakdaaGreatDoorK20
import Derived.Test.YtbemfdcjieakdaaGreatDoorK25
set_option maxRecDepth 100000
set_option maxHeartbeats 8000000
namespace Go.Proofs.YtbemfdcjieakdaaGreatDoor
section
open Go.RowKit Go.ChangeMaps Go.MapKept
def Commits(w:World)(L t:Nat)(T:Tr):Prop:=∀w',Below w.heap.size w w'->Calls Tryz.prog 68 #[.pointer (some ⟨t,0,none⟩)] w' fun e a=>∃b,e= .returned (.pointer (some ⟨b,0,none⟩))/\TreeAt a L w'.heap.size b T/\Below w'.heap.size w' a
theorem Commits.shut{w:World}{L B t c:Nat}{T:Tr}(h:TreeAt w L B t T)(b:TrOk c T)(f:c<=60000)(e:L<=w.heap.size)(g:Shut0 T):Commits w L t T:=fun w' a=>by
 obtain⟨mb,F,G,d⟩:=h;exact b2w (d.below a) b f (Ad e a.size) g
theorem a9V{w:World}{L B s t z:Nat}{O:Nat->Option Nat}{r:StM}{F:Tr}(h:StIn w L B w.heap.size s t z O r)(y:Commits w L t F)(M:r.S.l.length<=8)(P:L<=w.heap.size):
  Calls Tryz.prog 134 #[.pointer (some ⟨s,0,none⟩)] w fun e w'=>∃J,e= .returned (.pointer (some ⟨J,0,none⟩))/\StAt w' L L w'.heap.size J ⟨F,r.S,r.now,fun _=>none⟩/\Below w.heap.size w w':=by
 have E:Below w.heap.size w w.drew:=(Ab _ w).drew;have A:=qh y;have D:=qh (fun w' (I:Below w.heap.size w w')=>a8R (h.snaps.below (Aa _) I) I.size M);have m:=qh h.lt;obtain⟨f,k⟩:=qnm r.now;have a:=h.cel;unfold stC at a;rw[<-k] at a;have R:=qh k;have N:=a0a a 0;have Q:=a0a a 1;have T:=a0a a 2;simp only[qge] at N Q T;clear h y a E k;go_enter Tryz.func134,Tryz.ntmps134;go_upto_region 1 with fail
 refine a0h (fun i=>[0,1,2,3,4,5,6,7,8,9,10,11,12,13,14,15].contains i) (fun w'=>w'.cell? ⟨s,0,none⟩=some (Value.pointer (some ⟨t,0,none⟩))/\w'.cell? ⟨s,1,none⟩=some (Value.pointer (some ⟨z,0,none⟩))/\w'.cell? ⟨s,2,none⟩=some (Value.int .u64 (f:Int))) (by kernel_rfl) ?_ (fun hHeld=>?_)
 ·go_keep
 refine qtk 0 3 ?_;refine qtk 1 4 ?_;refine qtk 2 5 ?_;refine qtk 3 6 ?_;refine qtk 5 8 ?_;refine qtk 6 9 ?_;refine qtk 7 10 ?_;refine qtk 8 11 ?_;refine qtk 10 13 ?_;refine qtk 11 14 ?_;refine qtk 12 15 ?_;refine qtk 13 16 ?_;refine qone 4 fun K hK=>?_
 go_simp;refine(A.out _ (Ab _ _).drew).mono ?_;rintro e w2 ⟨x,rfl,v,hb2⟩;have hHeld:(fun w'=>w'.cell? ⟨s,0,none⟩=some (Value.pointer (some ⟨t,0,none⟩))/\w'.cell? ⟨s,1,none⟩=some (Value.pointer (some ⟨z,0,none⟩))/\w'.cell? ⟨s,2,none⟩=some (Value.int .u64 (f:Int))) w2:=⟨(hb2.cell (p:=⟨s,0,none⟩) m.out).trans hHeld.1,(hb2.cell (p:=⟨s,1,none⟩) m.out).trans hHeld.2.1,(hb2.cell (p:=⟨s,2,none⟩) m.out).trans hHeld.2.2⟩
 have b:=(Ab w.heap.size w).drew.trans hb2;have n:s<w2.heap.size:=Ai m.out b.size;go_wp2_with fail;refine hK.out _ _ (fun _=>hHeld) ?_;clear hK K;refine qone 9 fun K hK=>?_
 go_simp;refine(D.out _ b).mono ?_;rintro e w3 ⟨g,rfl,u,hb3⟩;have hHeld:(fun w'=>w'.cell? ⟨s,0,none⟩=some (Value.pointer (some ⟨t,0,none⟩))/\w'.cell? ⟨s,1,none⟩=some (Value.pointer (some ⟨z,0,none⟩))/\w'.cell? ⟨s,2,none⟩=some (Value.int .u64 (f:Int))) w3:=⟨(hb3.cell (p:=⟨s,0,none⟩) n).trans hHeld.1,(hb3.cell (p:=⟨s,1,none⟩) n).trans hHeld.2.1,(hb3.cell (p:=⟨s,2,none⟩) n).trans hHeld.2.2⟩
 go_wp2_with fail;refine hK.out _ _ (fun _=>hHeld) ?_;clear hK K;refine qtk 14 17 ?_;refine qone 15 fun K hK=>?_
 go_simp;have d:=(Ab w3.heap.size w3).alloc (Aa _) (.cells #[.pointer (some ⟨x,0,none⟩),.pointer (some ⟨g,0,none⟩),.int .u64 (f:Int),.pointer none,.pointer none,.pointer none,.pointer none,.pointer none,.pointer none,.pointer none,.pointer none] TState);have c:=b.trans (hb3.mono b.size);have j:s<w3.heap.size:=Ai m.out c.size;refine hK.out _ _ (fun _=>⟨(d.cell (p:=⟨s,0,none⟩) j).trans hHeld.1,(d.cell (p:=⟨s,1,none⟩) j).trans hHeld.2.1,(d.cell (p:=⟨s,2,none⟩) j).trans hHeld.2.2⟩) ?_;clear hK K;refine qfr 16 2 ?_;refine qdon ?_;have q:=c.trans (d.mono c.size);have G:=qh (aI (show StAt (w3.alloc (.cells #[.pointer (some ⟨x,0,none⟩),.pointer (some ⟨g,0,none⟩),.int .u64 (f:Int),.pointer none,.pointer none,.pointer none,.pointer none,.pointer none,.pointer none,.pointer none,.pointer none] TState)) L L (w3.alloc (.cells #[.pointer (some ⟨x,0,none⟩),.pointer (some ⟨g,0,none⟩),.int .u64 (f:Int),.pointer none,.pointer none,.pointer none,.pointer none,.pointer none,.pointer none,.pointer none,.pointer none] TState)).heap.size w3.heap.size ⟨F,r.S,r.now,fun _=>none⟩ from by
  have H:=Ae w3 (.cells #[.pointer (some ⟨x,0,none⟩),.pointer (some ⟨g,0,none⟩),.int .u64 (f:Int),.pointer none,.pointer none,.pointer none,.pointer none,.pointer none,.pointer none,.pointer none,.pointer none] TState);rw[R.out] at H d q⊢;refine StAt.frozen (B:=w.heap.size) (C:=w.heap.size) ⟨x,g,fun _=>none,?_⟩ P;exact⟨c.size,H,((v.weaken (by simp)).below hb3).below d,(u.weaken b.size).below c.size d,fun _ _ _=>rfl,fun i o V U=>by simp at U⟩) q)
 clear v hb2 u hb3 b c d q hHeld;go_wp2_with fail;go_ret;exact⟨_,rfl,G.out.1,G.out.2⟩
structure SnGd (c:Nat) (S:SnS):Prop where
 len:S.l.length<=8
 one:∀s∈S.l,TGd c s.T/\s.hash.length=32/\s.id<=c
 nx:1<=S.next/\S.next<=c+1
 last:S.last.length<=32
theorem SnGd.mono{c b:Nat}{S:SnS}(h:SnGd c S)(d:c<=b):SnGd b S:=
 ⟨h.len,fun s a=>⟨(h.one s a).1.mono d,(h.one s a).2.1,Ad (h.one s a).2.2 d⟩,⟨h.nx.1,by have:=h.nx.2;omega⟩,h.last⟩
theorem b7N{b:Type}(r:Nat)(c:r<3):∀(L:List (List b)),(∀x∈L,x.length=3)->∀(k:Nat) (hk:k<L.length),L.flatten[k * 3+r]? =L[k][r]?
 | [],_,k,hk=>by simp at hk
 | x :: L,h,k,hk=>by
  have d:=h x (AL ..);rw[Bg];cases k with
  | zero=>
   rw[A7 (by omega)];simp
  | succ k=>
   rw[AM (by omega)];have:=b7N r c L (fun y a=>h y (AI _ a)) k (by simpa using hk);rw[show(k+1) * 3+r - x.length=k * 3+r by omega,this];rfl
def b9c(w:World)(L g k:Nat)(s:Sn):Prop:=∃(hv:Value) (t:Nat),w.cell? ⟨g,k * 3,none⟩=some (.int .i64 (s.id:Int))/\w.cell? ⟨g,k * 3+1,none⟩=some hv/\w.cell? ⟨g,k * 3+2,none⟩=some (.pointer (some ⟨t,0,none⟩))/\Own w L hv s.hash/\TreeAt w L L t s.T
theorem SnapsAt.at{w:World}{L B C d:Nat}{S:SnS}(h:SnapsAt w L B C d S):∃j e,w.cell? ⟨d,0,none⟩=some (.slice j S.l.length e)/\S.l.length<=e/\e<=maxLen/\(0<S.l.length->∃g,j=some ⟨g,0,none⟩/\B<=g/\g<w.heap.size/\∀k (hk:k<S.l.length),b9c w L g k S.l[k]):=by
 obtain⟨_,lv,K,f,y,M,h3,n,H⟩:=h;have m:w.cell? ⟨d,0,none⟩=some lv:=a0a y 0;have i:=n;rcases n.2 with⟨rfl,F⟩ | ⟨g,cap,u,rfl,G,t,A,v,E⟩
 ·exact⟨none,0,by rw[m,F],by omega,by unfold maxLen;omega,fun h=>by omega⟩
 ·refine⟨_,cap,m,A,v,fun _=>⟨g,rfl,G,(Array.getElem?_eq_some_iff.1 t).1,fun k hk=>?_⟩⟩;obtain⟨q,N,D,I,z⟩:=H k hk (by omega);have b:∀x∈List.zipWith a0U S.l f,x.length=3:=fun x o=>by
   rw[<-BK] at o;obtain⟨⟨s,p⟩,_,rfl⟩:=AX.1 o;rfl
  have c:k<(List.zipWith a0U S.l f).length:=by rw[List.length_zipWith];omega
  have a:∀r,r<3->w.cell? ⟨g,k * 3+r,none⟩=(a0U S.l[k] (f[k]'(by omega)))[r]?:=fun r J=>by
   rw[A1 (size:=3) i (k * 3+r) (by omega),b7N r J _ b k c,List.getElem_zipWith]
  exact⟨_,_,a 0 (by omega),a 1 (by omega),a 2 (by omega),q,z.below (by rw[D];exact I)⟩
def a7Y(s:Sn):List UInt8:=be s.id 8 ++(a0j s.hash ++(be (a0p s.T).length 8 ++a0p s.T))
def a05(S:SnS):List UInt8:=be S.next 8 ++(a0j S.last ++(be S.l.length 1 ++(S.l.map a7Y).flatten))
theorem WJ.bs{w e W:World}{q:Nat}{g:Option Nat}{L:List UInt8}(h:WJ w e q g W L){a:Option Addr}{n k:Nat}{ys:List UInt8}(o:Bs e a n k ys)(j:∀c,a=some c->c.block≠q/\g≠some c.block):Bs W a n k ys:=by
 obtain⟨p,r,h3,d⟩:=o;refine⟨p,r,h3,?_⟩;rcases d with d | ⟨b,off,rfl,f,m⟩
 ·exact .inl d
 ·refine .inr ⟨b,off,rfl,Ai f ?_,fun i s=>?_⟩
  ·obtain⟨_,_,_,l,_⟩:=h;exact l.size
  ·rw[h.cell f (j _ rfl).1 (j _ rfl).2];exact m i s
theorem a3q{w:World}{L B t c:Nat}{T:Tr}(h:TreeAt w L B t T)(a:TrOk c T)(i:c<=60000):(a0p T).length<=128000002:=by
 obtain⟨mb,F,G,b⟩:=h;have:=a7T T T.length (fun p e=>by
  have d:=a0s b.ne (k:=p.1) (v:=p.2) e;obtain⟨f,g⟩:=a.item b d;exact a6u p.2 f g (by have:=(a.nd _ _ d).2.2.2.2;omega)) a.len
 rw[Am (Aa _)] at this;unfold a0p;rw[Af,a0d];omega
def a7Z:Nat:=1100000000
theorem b3c(s:Sn)(h:(a0p s.T).length<=128000002):(a7Y s).length<=128100000:=by
 unfold a7Y;have:=a1J s.hash;simp only[Af,a0d];omega
theorem a5a:∀(l:List Sn),(∀s∈l,(a0p s.T).length<=128000002)->((l.map a7Y).flatten).length<=l.length * 128100000
 | [],_=>by simp
 | s :: l,h=>by
  have b:=b3c s (h s (AL ..));have c:=a5a l (fun x a=>h x (AI _ a));rw[Au,Bg,Af,AA];omega
theorem b3a{w:World}{L B C sn c:Nat}{S:SnS}(h:SnapsAt w L B C sn S)(gd:SnGd c S)(hc:c<=60000):
  Calls Tryz.prog 73 #[.pointer (some ⟨sn,0,none⟩)] w fun e w'=>∃v,e= .returned v/\Own w' w.heap.size v (a05 S)/\(a05 S).length<=a7Z/\Below w.heap.size w w':=by
 obtain⟨la,lc,d0,aR,ay,a8⟩:=h.at;obtain⟨_,lv,av,hs,J,h2,h3,h4,_⟩:=h;obtain⟨N,hN⟩:∃N,S.last.length=N:=⟨_,rfl⟩
 obtain⟨aa,ac,rfl,aA⟩:=h2.bsn hN;have V:=a0a J 1;have c2:=a0a J 2;simp only[qge] at V c2;have a5:=qh (Array.getElem?_eq_some_iff.1 J).1;obtain⟨nx,r⟩:=qnm S.next
 obtain⟨n,hn⟩:=qnm S.l.length;rw[<-r] at V;rw[<-hn] at d0 aR;have aM:nx<=c+1:=by rw[r];exact gd.nx.2
 have aU:n<=8:=by rw[hn];exact gd.len
 have aW:lc<=9223372036854775807:=Ad ay (by unfold maxLen;decide);have aV:N<=32:=by rw[<-hN];exact gd.last
 have e1:IntKind.u64.wrap (nx:Int)=(nx:Int):=by simp[IntKind.wrap,IntKind.bits,IntKind.signed];omega
 have y:=qh (aI r (aI hn (aI gd hN)));have aQ:=qh aA;have K:∀s∈S.l,(a0p s.T).length<=128000002:=fun s hs=>by
  obtain⟨k,hk,rfl⟩:=Bi hs;obtain⟨g,_,_,_,m⟩:=a8 (by omega);obtain⟨_,t,_,_,_,_,hT⟩:=m k hk;exact a3q hT (gd.one _ hs).1.1 hc
 have U:=qh (aI a8 K);have HC:=qh (show ∀W,Below w.heap.size w W->W.cell? ⟨sn,0,none⟩=some (.slice la n lc)/\W.cell? ⟨sn,1,none⟩=some (.int .i64 (nx:Int))/\W.cell? ⟨sn,2,none⟩=some (.slice aa N ac) from fun W hb=>
  ⟨(hb.cell (p:=⟨sn,0,none⟩) a5.out).trans d0,(hb.cell (p:=⟨sn,1,none⟩) a5.out).trans V,(hb.cell (p:=⟨sn,2,none⟩) a5.out).trans c2⟩)
 clear J h2 h3 h4 aA V c2 d0 r hN hn gd a8 aM K ay;go_enter Tryz.func73,Tryz.ntmps73;go_wp2_with fail;refine(a2k w).mono ?_;rintro e w1 ⟨rfl,aK,hb1⟩;obtain⟨q,hq⟩:=qnm w.heap.size;have af:WI w w.heap.size w.heap.size w1 []:=⟨(Ext.refl w).step hb1,none,aK⟩
 obtain⟨c0,V,c2⟩:=HC.out w1 hb1;have HQ:=qh hq;rw[<-hq] at af⊢;clear aK hb1 hq;go_wp2_with fail;refine(a18 nx af (by unfold big;decide)).mono ?_;rintro e w2 ⟨rfl,a7⟩;obtain⟨c0,V,c2⟩:=HC.out w2 (by have:=a7.1.1;rwa [HQ.out] at this);clear af;go_wp2_with fail;refine(a5X a7 HQ.out.symm aQ.out (by simp[a0d];unfold big;decide)).mono ?_;rintro e w3 ⟨rfl,ah⟩;obtain⟨c0,V,c2⟩:=HC.out w3 (by have:=ah.1.1;rwa [HQ.out] at this);clear a7;have aN:=a1J S.last;go_wp2_with fail;refine(a4v n ah (by omega) (by simp[a0d];unfold big;omega)).mono ?_;rintro e w4 ⟨rfl,O⟩;obtain⟨c0,V,c2⟩:=HC.out w4 (by have:=O.1.1;rwa [HQ.out] at this);obtain⟨P,hP⟩:=qnm (((([]:List UInt8) ++be nx 8) ++a0j S.last) ++be n 1);rw[<-hP] at O;have ar:P.length<=70000:=by rw[hP];simp[a0d];omega
 have ak:=qh O;have HP:=qh (aI hP ar);clear ah O hP ar aN V c2;go_wp2_with fail;go_loopw [5,6,33] (fun _ _ k wr=>∃j:Nat,j<=n/\k= .int .i64 (j:Int)/\WI w q q wr (P ++((S.l.take j).map a7Y).flatten)) (fun _ _ k _=>n - (intOf k).toNat);case atStart=>exact ⟨0,by omega,rfl,by simpa using ak.out⟩
 case round=>
  obtain⟨j,hj,rfl,H⟩:=hrel;clear ak c0;have d:Below w.heap.size w wr:=by have:=H.1.1;rwa [HQ.out] at this
  obtain⟨c0,-,-⟩:=HC.out wr d;by_cases ap:j<n
  ·obtain⟨g,rfl,_,hg,m⟩:=U.out.1 (by rw[<-y.out.2.1];omega);have Q:j<S.l.length:=by rw[<-y.out.2.1];exact ap
   have aq:=m j Q;have G:=Ar Q;have a:=AE Q;generalize S.l[j]=s at aq G a;obtain⟨hv,tt,k0,k1,k2,hO,hT⟩:=aq;obtain⟨ax,F,R⟩:=y.out.2.2.1.one s a;obtain⟨ha,au,rfl,D⟩:=hO.bsn (n:=32) F;have k0:=(d.cell (p:=⟨g,j * 3,none⟩) hg).trans k0;have k1:=(d.cell (p:=⟨g,j * 3+1,none⟩) hg).trans k1;have k2:=(d.cell (p:=⟨g,j * 3+2,none⟩) hg).trans k2;have aT:=Ai hg d.size;obtain⟨pl,z⟩:=qnm (P ++((S.l.take j).map a7Y).flatten);rw[<-z] at H;have i:pl.length<=1024900000:=by
    rw[z,Af];have J:=HP.out.2;have h2:=a5a (S.l.take j) (fun x hx=>U.out.2 x (Bv hx));have h3:(S.l.take j).length<=8:=by rw[Av];omega
    omega
   obtain⟨w5,X⟩:=qnm (wr.alloc (.cells #[.int .i64 (s.id:Int),.slice ha 32 au,.pointer (some ⟨tt,0,none⟩)] a3d));have hb5:=qba X;have A:w5.heap[wr.heap.size]? =some (.cells #[.int .i64 (s.id:Int),.slice ha 32 au,.pointer (some ⟨tt,0,none⟩)] a3d (0,0)):=by rw[X];exact Ae wr _
   obtain⟨Z,hZ⟩:=qnm wr.heap.size;rw[<-hZ] at A;obtain⟨aX,Ft,Gt,aw⟩:=hT.below (d.trans (hb5.mono d.size));have aO:=qh (a4x aw ax.1 hc);have z0:=a0a A 0;have z1:=a0a A 1;have z2:=a0a A 2;simp only[qge] at z0 z1 z2;have HZ:=qh (aI z0 (aI z1 (Array.getElem?_eq_some_iff.1 A).1));have HX:=qh (aI H (aI hb5 (aI G (aI a (aI D (aI F (aI R (aI z (aI i (aI hZ hg))))))))));have ag:=qh (aI X hZ);have e4:IntKind.u64.wrap (s.id:Int)=(s.id:Int):=by simp[IntKind.wrap,IntKind.bits,IntKind.signed];omega
   have e5:(0:Int)<=(j:Int):=by omega
   have e6:(j:Int)<(n:Int):=by omega
   obtain⟨j2,aL⟩:=qnm (j+1);have e7:IntKind.i64.wrap ((j:Int)+1)=(j2:Int):=by rw[Ak _ (by omega)];omega
   have a4:=qh aL;clear G a hO hT ax F R D H z i X hb5 A hZ aw Q m d aL hj;go_upto_region 8 with fail
   rw[<-ag.out.1,<-ag.out.2];clear k0 k1 k2 ag;go_wp2_with fail;refine aO.out.mono ?_;rintro e w6 ⟨v6,rfl,a9,hb6⟩;obtain⟨H,hb5,G,a,D,F,R,z,i,hZ,hg⟩:=HX.out;have K:=U.out.2 s a;obtain⟨M,hM⟩:=qnm ((a0p s.T).length);obtain⟨a6,k6,rfl,aC⟩:=a9.bsn (n:=M) hM.symm;have a1:Below wr.heap.size wr w6:=hb5.trans (hb6.mono hb5.size);obtain⟨g0,az,a3,aB⟩:=WJ.start_at H a1;have am:=Ai HZ.out.2.2 hb6.size;have an:Z≠q:=by omega
   have a0:g0≠some Z:=fun e=>by have:=a3 Z e;omega
   have z0:=(hb6.cell (p:=⟨Z,0,none⟩) HZ.out.2.2).trans HZ.out.1;have ai:M<=128000002:=by omega
   have aj:=qh (b2I s.id az (by unfold big;omega));have a2:∀ad,a6=some ad->w5.heap.size<=ad.block:=fun ad f=>by subst f;exact a9.ge _ rfl
   have u:=qh (aI aC (aI hM (aI ai (aI (fun k hk=>a3 k hk) (aI aB (aI am (aI an (aI a0 (aI a2 (aI ((hb6.cell (p:=⟨Z,1,none⟩) HZ.out.2.2).trans HZ.out.2.1) hb5.size))))))))));have aP:=qh (fun W hb=>D.below (w':=W) hb);clear a9 hb6 a1 aC hM ai a3 aB a2 az D H hb5 G a F R z i hZ K hg am an a0;go_wp2_with fail;refine aj.out.mono ?_;rintro e w7 ⟨rfl,I⟩;have z1:=(I.cell (o:=1) u.out.2.2.2.2.2.1 u.out.2.2.2.2.2.2.1 u.out.2.2.2.2.2.2.2.1).trans u.out.2.2.2.2.2.2.2.2.2.1;have aF:=qh (a5K I (Ab _ _) (aP.out w7 (by have:=I.1.1;rwa [HQ.out] at this)) (fun h0 ad f=>.inl (by
    obtain⟨_,_,_,hh⟩:=HX.out.2.2.2.2.1;rcases hh with J | ⟨b,off,J,h2,_⟩
    ·omega
    ·rw[J] at f;injection f with f;subst f;rw[HQ.out];exact h2)) (by have:=HX.out.2.2.2.2.2.2.2.2.1;rw[Af,a0d];unfold big;omega))
   clear I aj z0;go_wp2_with fail;refine aF.out.mono ?_;rintro e w8 ⟨rfl,ao⟩;have e8:IntKind.u64.wrap (M:Int)=(M:Int):=by have:=u.out.2.2.1;simp[IntKind.wrap,IntKind.bits,IntKind.signed];omega
   have aY:=a1J s.hash;have aG:=qh (b2I M ao (by have:=HX.out.2.2.2.2.2.2.2.2.1;simp only[Af,a0d];unfold big;omega));clear ao aF z1;go_wp2_with fail;refine aG.out.mono ?_;rintro e w9 ⟨rfl,ae⟩;have aE:=ae.bs u.out.1 (fun ad f=>⟨fun e=>by have:=u.out.2.2.2.2.2.2.2.2.1 ad f;have:=u.out.2.2.2.2.1;have:=u.out.2.2.2.2.2.2.2.2.2.2;omega,fun e=>by have:=u.out.2.2.2.1 _ e;have:=u.out.2.2.2.2.2.2.2.2.1 ad f;have:=u.out.2.2.2.2.2.2.2.2.2.2;omega⟩);have aJ:=qh (b8h ae aE (by have:=HX.out.2.2.2.2.2.2.2.2.1;have:=u.out.2.2.1;simp only[Af,a0d];unfold big;omega));clear ae aE aG;go_wp2_with fail;refine aJ.out.mono ?_;rintro e aS ⟨rfl,Y⟩;have HF:=qh Y.wi;clear Y aJ;go_wp2_with fail;go_roundw;case rel=>
    refine⟨j2,by have:=a4.out;omega,rfl,?_⟩;have e0:P ++((S.l.take j2).map a7Y).flatten=(((pl ++be s.id 8) ++a0j s.hash) ++be M 8) ++a0p s.T:=by
     rw[a4.out,HX.out.2.2.1,AZ,AT,HX.out.2.2.2.2.2.2.2.1,u.out.2.1];simp[a7Y,List.append_assoc]
    rw[e0];exact HF.out
   case measure=>
    have:=a4.out;show n - (j2:Int).toNat<n - (j:Int).toNat;omega
  ·obtain rfl:j=n:=by omega
   have e0:P ++((S.l.take j).map a7Y).flatten=a05 S:=by
    rw[y.out.2.1,Am (Aa _),HP.out.1,y.out.1];unfold a05;rw[y.out.2.1];simp[List.append_assoc]
   have E:(a05 S).length<=a7Z:=by
    rw[<-e0,Af];have J:=HP.out.2;have h2:=a5a (S.l.take j) (fun x hx=>U.out.2 x (Bv hx));have h3:(S.l.take j).length<=8:=by rw[Av];omega
    unfold a7Z;omega
   rw[e0] at H;have HD:=qh (a10 H (by unfold a7Z at E;unfold big;omega));have aH:=qh (aI d E);clear H d E e0 hj ap c0;go_wp2_with fail;refine HD.out.mono ?_;rintro e w5 ⟨da,dc,rfl,ab,_,aD⟩;obtain⟨NN,al⟩:=qnm ((a05 S).length);rw[<-al] at ab⊢;have HF:=qh (aI ab (aI aD trivial));clear ab aD al;go_wp2_with fail;go_ret;refine⟨_,rfl,HF.out.1.base aH.out.1.size,aH.out.2,?_⟩;have:=HF.out.2.1.1.1
   rwa [HQ.out] at this
def stBytes(T:Tr)(S:SnS)(a:Nat):List UInt8:=be a 8 ++(be (a0p T).length 8 ++(a0p T ++a05 S))
theorem a67{w:World}{L B C s t sn c:Nat}{fp:Nat->Option Nat}{σ:StM}{k:Tr}(h:StIn w L B C s t sn fp σ)(hC:C<=w.heap.size)(P:Commits w L t k)(ok:TrOk c k)(hc:c<=60000)(gd:SnGd c σ.S):
  Calls Tryz.prog 32 #[.pointer (some ⟨s,0,none⟩)] w fun e w'=>∃v,e= .returned v/\Own w' w.heap.size v (stBytes k σ.S σ.now)/\(stBytes k σ.S σ.now).length<=a7Z+130000000/\Below w.heap.size w w':=by
 have J:=qh (P w (Ab _ _));have U:=qh ok;have y:=qh h.lt;have a0:=qh (fun w' (X:Below w.heap.size w w')=>b3a (h.snaps.below hC X) gd hc);obtain⟨o,b⟩:=qnm σ.now;have a:=h.cel;unfold stC at a;rw[<-b] at a;have HN:=qh b;have HC:=qh (show ∀W,Below w.heap.size w W->W.cell? ⟨s,1,none⟩=some (.pointer (some ⟨sn,0,none⟩))/\W.cell? ⟨s,2,none⟩=some (.int .u64 (o:Int)) from fun W X=>
  ⟨(X.cell (p:=⟨s,1,none⟩) y.out).trans (a0a a 1),(X.cell (p:=⟨s,2,none⟩) y.out).trans (a0a a 2)⟩)
 have c0:=a0a a 0;simp only[BB,List.getElem?_cons_zero] at c0;clear h P ok a b;go_enter Tryz.func32,Tryz.ntmps32;go_wp2_with fail;refine J.out.mono ?_;rintro e w1 ⟨t1,rfl,d,hb1⟩;have z:=a3q d U.out hc;have a3:=qh z;obtain⟨a4,F1,G1,d⟩:=d;have G:=qh (a4x d U.out hc);have E:=qh hb1;clear d hb1 c0 z J;go_wp2_with fail;refine G.out.mono ?_;rintro e w2 ⟨v2,rfl,K,hb2⟩;obtain⟨N,hN⟩:=qnm ((a0p k).length);have i:=qh hN;have a5:N<=128000002:=by have:=a3.out;omega
 obtain⟨a2,k2,rfl,x⟩:=K.bsn (n:=N) hN.symm;have Q:=qh (E.out.trans (hb2.mono E.out.size));have a1:=qh x;clear K hb2 x hN G;go_wp2_with fail;refine(a2k w2).mono ?_;rintro e w3 ⟨rfl,V,hb3⟩;obtain⟨q,hq⟩:=qnm w2.heap.size;have l:WI w2 w2.heap.size w2.heap.size w3 []:=⟨(Ext.refl w2).step hb3,none,V⟩
 have HQ:=qh hq;rw[<-hq] at l⊢;have f:=qh (show ∀W L,WI w2 q q W L->Below w.heap.size w W from fun W L h=>by
  have:=h.1.1;rw[HQ.out] at this;exact Q.out.trans (this.mono Q.out.size))
 obtain⟨c1,c2⟩:=HC.out w3 (f.out _ _ l);clear V hb3 hq;go_wp2_with fail;refine(a18 o l (by unfold big;decide)).mono ?_;rintro e w4 ⟨rfl,H⟩;clear l c1 c2;have e1:IntKind.u64.wrap (N:Int)=(N:Int):=by simp[IntKind.wrap,IntKind.bits,IntKind.signed];omega
 go_wp2_with fail;refine(a18 N H (by simp[a0d];unfold big;decide)).mono ?_;rintro e w5 ⟨rfl,u⟩;clear H;go_wp2_with fail;refine(a1E u (u.1.bs HQ.out.symm a1.out) (by simp[a0d];unfold big;omega)).mono ?_;rintro e w6 ⟨rfl,g⟩;obtain⟨c1,c2⟩:=HC.out w6 (f.out _ _ g);have R:=qh (a0.out w6 (f.out _ _ g));clear u;go_wp2_with fail;refine R.out.mono ?_;rintro e w7 ⟨v7,rfl,O,I,hb7⟩;obtain⟨M,Y⟩:=qnm ((a05 σ.S).length);have a6:M<=1100000000:=by rw[Y];exact I
 clear I;obtain⟨a7,k7,rfl,T⟩:=O.bsn (n:=M) Y.symm;have F:=g.below hb7;have HM:=qh Y;clear O hb7 g R c1 c2 Y;go_wp2_with fail;refine(a1E F T (by simp[a0d,<-i.out];unfold big;omega)).mono ?_;rintro e w8 ⟨rfl,r⟩;have HD:=qh (a10 r (by simp[a0d,<-i.out,<-HM.out];unfold big;omega));have Z:=qh (f.out _ _ r);clear F r T;go_wp2_with fail;refine HD.out.mono ?_;rintro e w9 ⟨da,dc,rfl,j,_,A⟩;have e0:(((([]:List UInt8) ++be o 8) ++be N 8) ++a0p k) ++a05 σ.S=stBytes k σ.S σ.now:=by unfold stBytes;rw[<-HN.out,<-i.out];simp[List.append_assoc]
 rw[e0] at j⊢;have m:(stBytes k σ.S σ.now).length<=a7Z+130000000:=by rw[<-e0];simp only[Af,a0d,Ay];rw[<-i.out,<-HM.out];unfold a7Z;omega
 obtain⟨NN,D⟩:=qnm ((stBytes k σ.S σ.now).length);rw[<-D] at j⊢;have HF:=qh (aI (j.base Z.out.size) (aI m (f.out _ _ A)));clear j A e0 m D;go_wp2_with fail;go_ret;exact⟨_,rfl,HF.out.1,HF.out.2.1,HF.out.2.2⟩
end
section
open Go.RowKit Go.ChangeMaps Go.MapKept
variable {w : World} {L B C s t sn : Nat} {fp : Nat → Option Nat} {σ : StM}
theorem StIn.fdcell(h:StIn w L B C s t sn fp σ)(n:Nat)(c:n<8):w.cell? ⟨s,3+n,none⟩=some (fdV fp n):=by
 have b:=a0a h.cel (3+n);have a:n=0∨n=1∨n=2∨n=3∨n=4∨n=5∨n=6∨n=7:=by omega
 rcases a with rfl | rfl | rfl | rfl | rfl | rfl | rfl | rfl <;>exact b
theorem a9n(h:StIn w L B C s t sn fp σ)(n:Nat)(f:n<8)(o:Opn)(k:σ.fds n=some o)(wr:Bool)(d:o.wr=wr):
  Calls Tryz.prog 77 #[.pointer (some ⟨s,0,none⟩),.int .i64 (n:Int),.bool wr] w fun e w'=>(∃g,e= .returned (.tuple #[.pointer (some ⟨g,0,none⟩),.bool true])/\fp n=some g/\OpnAt w L g o)/\w=w':=by
 obtain⟨g,b,_,v,c,j⟩:=h.fd n o f k;have a:=h.fdcell n f;unfold fdV at a;rw[b] at a;simp only[Option.map_some] at a;have l:w.cell? ⟨g,0,none⟩=some (.bool o.wr):=a0a c 0;rw[d] at l;have i:=qh (aI b (show OpnAt w L g o from⟨v,c,j⟩));have p:(0:Int)<=(n:Int):=by omega
 have r:(n:Int)<8:=by omega
 have x:¬(n:Int)<0:=by omega
 have q:¬(8:Int)<=(n:Int):=by omega
 have m:(wr != wr)=false:=by cases wr <;>rfl
 have u:(!(wr == wr))=false:=by cases wr <;>rfl
 clear h c j b k d;go_enter Tryz.func77,Tryz.ntmps77;go_wp2_with fail;go_ret2;exact⟨⟨g,rfl,i.out.1,i.out.2⟩,rfl⟩
theorem a6D(h:StIn w L B C s t sn fp σ)(n:Int)(wr:Bool)(b:∀(k:Nat) o,n=(k:Int)->k<8->σ.fds k=some o->o.wr≠wr):
  Calls Tryz.prog 77 #[.pointer (some ⟨s,0,none⟩),.int .i64 n,.bool wr] w fun e w'=>e= .returned (.tuple #[.pointer none,.bool false])/\w=w':=by
 by_cases q:n<0
 ·clear h b;go_enter Tryz.func77,Tryz.ntmps77;go_wp2_with fail;go_ret2;exact⟨rfl,rfl⟩
 by_cases r:8<=n
 ·clear h b;go_enter Tryz.func77,Tryz.ntmps77;go_wp2_with fail;go_ret2;exact⟨rfl,rfl⟩
 obtain⟨k,rfl⟩:∃k:Nat,n=k:=⟨n.toNat,by omega⟩
 have hk:k<8:=by omega
 have a:=h.fdcell k hk;unfold fdV at a;have p:(0:Int)<=(k:Int):=by omega
 have m:(k:Int)<8:=by omega
 cases c:σ.fds k with
 | none=>
  rw[h.no k hk c] at a;simp only[Option.map_none] at a;clear h b c;go_enter Tryz.func77,Tryz.ntmps77;go_wp2_with fail;go_ret2;exact⟨rfl,rfl⟩
 | some o=>
  obtain⟨g,f,_,v,h3,_⟩:=h.fd k o hk c;rw[f] at a;simp only[Option.map_some] at a;have d:=b k o rfl hk c;have j:w.cell? ⟨g,0,none⟩=some (.bool o.wr):=a0a h3 0;have i:o.wr= !wr:=by cases l:o.wr <;>cases wr <;>simp_all
  rw[i] at j;clear h b c h3 f d i;cases wr
  ·go_enter Tryz.func77,Tryz.ntmps77;go_wp2_with fail;go_ret2;exact⟨rfl,rfl⟩
  ·go_enter Tryz.func77,Tryz.ntmps77;go_wp2_with fail;go_ret2;exact⟨rfl,rfl⟩
def a2w(σ:StM)(n:Int):Bool:=if 0<=n/\n<8 then(match σ.fds n.toNat with | some o=>o.wr | none=>false) else false
theorem a3G(σ:StM)(n:Int)(h:a2w σ n=false):∀(k:Nat) o,n=(k:Int)->k<8->σ.fds k=some o->o.wr≠true:=by
 intro k o a hk c b;subst a;unfold a2w at h;rw[Ah ⟨by omega,by omega⟩] at h;simp[c,b] at h
theorem a4h(σ:StM)(n:Int)(h:a2w σ n=true):∃(k:Nat) (o:Opn),n=(k:Int)/\k<8/\σ.fds k=some o/\o.wr=true:=by
 unfold a2w at h;by_cases b:0<=n/\n<8
 ·rw[Ah b] at h;cases a:σ.fds n.toNat with
  | none=>rw [a] at h;cases h
  | some o=>rw [a] at h;exact⟨n.toNat,o,by omega,by omega,a,h⟩
 ·rw[Ag b] at h;cases h
theorem a61(h:StIn w L B C s t sn fp σ)(n:Int):
  Calls Tryz.prog 36 #[.pointer (some ⟨s,0,none⟩),.int .i64 n] w fun e w'=>e= .returned (.bool (a2w σ n))/\w=w':=by
 cases b:a2w σ n with
 | true=>
  obtain⟨k,o,rfl,hk,d,a⟩:=a4h σ n b;have c:=qh (a9n h k hk o d true a);clear h b d a;go_enter Tryz.func36,Tryz.ntmps36;go_wp2_with fail;refine c.out.mono ?_;rintro e f ⟨⟨g,rfl,_⟩,rfl⟩;go_wp2_with fail;go_ret;exact⟨rfl,rfl⟩
 | false=>
  have c:=qh (a6D h n true (a3G σ n b));clear h b;go_enter Tryz.func36,Tryz.ntmps36;go_wp2_with fail;refine c.out.mono ?_;rintro e f ⟨rfl,rfl⟩;go_wp2_with fail;go_ret;exact⟨rfl,rfl⟩
end
section
open Go.RowKit Go.ChangeMaps Go.MapKept
variable {w : World} {L B C s t sn : Nat} {fp : Nat → Option Nat} {σ : StM}
def a4V(f:Nat->Option Opn):Nat->Nat->Int
 | 0,_=> -1
 | n+1,k=>if (f k).isNone then(k:Int) else a4V f n (k+1)
def a60(σ:StM):Int:=a4V σ.fds 8 0
theorem a8h(f:Nat->Option Opn):∀(n k:Nat),a4V f n k= -1∨∃j:Nat,a4V f n k=(j:Int)/\k<=j/\j<k+n/\f j=none
 | 0,k=>.inl rfl
 | n+1,k=>by
  unfold a4V;cases a:f k with
  | none=>exact .inr ⟨k,by simp,by omega,by omega,a⟩
  | some o=>
   simp only[Option.isNone_some,AV,Cv];rcases a8h f n (k+1) with h | ⟨j,b,d,h3,c⟩
   ·exact .inl h
   ·exact .inr ⟨j,b,by omega,by omega,c⟩
theorem a0W(w:World)(a:Array Value)(i:Nat)(q:Option Addr)(c:i<8)(h:a[i]? =some (.pointer q)):(Instr.index 134 (.agg a) (.int .i64 (i:Int))).run Tryz.prog w= .ok (.pointer q) w:=by
 simp[Instr.index,run_underlying Tryz.underlying134,asIntOf,go_sem,Tryz.sizeOf133,Tryz.isAgg133,h];intro b;omega
theorem b1h(h:StIn w L B C s t sn fp σ):
  Calls Tryz.prog 151 #[.pointer (some ⟨s,0,none⟩)] w fun e w'=>e= .returned (.int .i64 (a60 σ))/\w=w':=by
 have x:∀i,i<8->∃q:Option Addr,w.cell? ⟨s,3+i,none⟩=some (.pointer q)/\((σ.fds i).isNone=true->q=none)/\((σ.fds i).isNone=false->∃g,q=some ⟨g,0,none⟩):=fun i M=>by
  refine⟨_,h.fdcell i M,fun I=>?_,fun I=>?_⟩
  ·rw[h.no i M (by simpa using I)];rfl
  ·cases P:σ.fds i with
   | none=>rw [P] at I;cases I
   | some o=>
    obtain⟨g,Y,_⟩:=h.fd i o M P;exact⟨g,by rw[Y];rfl⟩
 have p:=qh (show a60 σ=if (σ.fds 0).isNone then 0 else if(σ.fds 1).isNone then 1 else if(σ.fds 2).isNone then 2 else if(σ.fds 3).isNone then 3 else if(σ.fds 4).isNone then 4 else if(σ.fds 5).isNone then 5 else if(σ.fds 6).isNone then 6 else if(σ.fds 7).isNone then 7 else -1 from rfl);obtain⟨j,V,O,N⟩:=x 0 (by omega);obtain⟨a,Z,J,K⟩:=x 1 (by omega);obtain⟨l,c2,G,H⟩:=x 2 (by omega);obtain⟨d,T,E,F⟩:=x 3 (by omega);obtain⟨c,X,D,A⟩:=x 4 (by omega);obtain⟨m,c5,y,z⟩:=x 5 (by omega);obtain⟨k,S,v,u⟩:=x 6 (by omega);obtain⟨n,c7,b,f⟩:=x 7 (by omega);simp only[Nat.reduceAdd] at V Z c2 T X c5 S c7;generalize a60 σ=r at *;generalize(σ.fds 0).isNone=b0 at *;generalize(σ.fds 1).isNone=Q at *;generalize(σ.fds 2).isNone=b2 at *;generalize(σ.fds 3).isNone=b3 at *;generalize(σ.fds 4).isNone=U at *;generalize(σ.fds 5).isNone=W at *;generalize(σ.fds 6).isNone=R at *;generalize(σ.fds 7).isNone=b7 at *;have x0:∀w,(Instr.index 134 (.agg #[.pointer j,.pointer a,.pointer l,.pointer d,.pointer c,.pointer m,.pointer k,.pointer n]) (.int .i64 0)).run Tryz.prog w= .ok (.pointer j) w:=fun w=>a0W w _ 0 j (by omega) rfl
 have x1:∀w,(Instr.index 134 (.agg #[.pointer j,.pointer a,.pointer l,.pointer d,.pointer c,.pointer m,.pointer k,.pointer n]) (.int .i64 1)).run Tryz.prog w= .ok (.pointer a) w:=fun w=>a0W w _ 1 a (by omega) rfl
 have x2:∀w,(Instr.index 134 (.agg #[.pointer j,.pointer a,.pointer l,.pointer d,.pointer c,.pointer m,.pointer k,.pointer n]) (.int .i64 2)).run Tryz.prog w= .ok (.pointer l) w:=fun w=>a0W w _ 2 l (by omega) rfl
 have x3:∀w,(Instr.index 134 (.agg #[.pointer j,.pointer a,.pointer l,.pointer d,.pointer c,.pointer m,.pointer k,.pointer n]) (.int .i64 3)).run Tryz.prog w= .ok (.pointer d) w:=fun w=>a0W w _ 3 d (by omega) rfl
 have x4:∀w,(Instr.index 134 (.agg #[.pointer j,.pointer a,.pointer l,.pointer d,.pointer c,.pointer m,.pointer k,.pointer n]) (.int .i64 4)).run Tryz.prog w= .ok (.pointer c) w:=fun w=>a0W w _ 4 c (by omega) rfl
 have x5:∀w,(Instr.index 134 (.agg #[.pointer j,.pointer a,.pointer l,.pointer d,.pointer c,.pointer m,.pointer k,.pointer n]) (.int .i64 5)).run Tryz.prog w= .ok (.pointer m) w:=fun w=>a0W w _ 5 m (by omega) rfl
 have x6:∀w,(Instr.index 134 (.agg #[.pointer j,.pointer a,.pointer l,.pointer d,.pointer c,.pointer m,.pointer k,.pointer n]) (.int .i64 6)).run Tryz.prog w= .ok (.pointer k) w:=fun w=>a0W w _ 6 k (by omega) rfl
 have x7:∀w,(Instr.index 134 (.agg #[.pointer j,.pointer a,.pointer l,.pointer d,.pointer c,.pointer m,.pointer k,.pointer n]) (.int .i64 7)).run Tryz.prog w= .ok (.pointer n) w:=fun w=>a0W w _ 7 n (by omega) rfl
 clear h x;go_enter Tryz.func151,Tryz.ntmps151;go_wp2_with fail;refine BQ 9 ?_;rw[A0];cases b0 with
 | true=>
  obtain rfl:=O rfl;clear O N J K G H E F D A y z v u b f;go_wp2_with fail;go_ret;exact⟨a0F p.out.symm,rfl⟩
 | false=>
  obtain⟨g0,rfl⟩:=N rfl;clear O N;go_wp2_with fail;rw[A0];cases Q with
  | true=>
   obtain rfl:=J rfl;clear J K G H E F D A y z v u b f;go_wp2_with fail;go_ret;exact⟨a0F p.out.symm,rfl⟩
  | false=>
   obtain⟨g1,rfl⟩:=K rfl;clear J K;go_wp2_with fail;rw[A0];cases b2 with
   | true=>
    obtain rfl:=G rfl;clear G H E F D A y z v u b f;go_wp2_with fail;go_ret;exact⟨a0F p.out.symm,rfl⟩
   | false=>
    obtain⟨g2,rfl⟩:=H rfl;clear G H;go_wp2_with fail;rw[A0];cases b3 with
    | true=>
     obtain rfl:=E rfl;clear E F D A y z v u b f;go_wp2_with fail;go_ret;exact⟨a0F p.out.symm,rfl⟩
    | false=>
     obtain⟨g3,rfl⟩:=F rfl;clear E F;go_wp2_with fail;rw[A0];cases U with
     | true=>
      obtain rfl:=D rfl;clear D A y z v u b f;go_wp2_with fail;go_ret;exact⟨a0F p.out.symm,rfl⟩
     | false=>
      obtain⟨g4,rfl⟩:=A rfl;clear D A;go_wp2_with fail;rw[A0];cases W with
      | true=>
       obtain rfl:=y rfl;clear y z v u b f;go_wp2_with fail;go_ret;exact⟨a0F p.out.symm,rfl⟩
      | false=>
       obtain⟨g5,rfl⟩:=z rfl;clear y z;go_wp2_with fail;rw[A0];cases R with
       | true=>
        obtain rfl:=v rfl;clear v u b f;go_wp2_with fail;go_ret;exact⟨a0F p.out.symm,rfl⟩
       | false=>
        obtain⟨g6,rfl⟩:=u rfl;clear v u;go_wp2_with fail;rw[A0];cases b7 with
        | true=>
         obtain rfl:=b rfl;clear b f;go_wp2_with fail;go_ret;exact⟨a0F p.out.symm,rfl⟩
        | false=>
         obtain⟨g7,rfl⟩:=f rfl;clear b f;go_wp2_with fail;rw[A0];go_wp2_with fail;go_ret;exact⟨a0F p.out.symm,rfl⟩
end
end Go.Proofs.YtbemfdcjieakdaaGreatDoor
