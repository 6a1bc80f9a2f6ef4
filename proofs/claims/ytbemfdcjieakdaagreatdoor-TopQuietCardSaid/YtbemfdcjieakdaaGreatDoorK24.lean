/- TreeSave2; StateAt; SnapNew; RecOwn; LogAt. -/
import Derived.Test.YtbemfdcjieakdaaGreatDoorK23
set_option maxRecDepth 100000
set_option maxHeartbeats 8000000
namespace Go.Proofs.YtbemfdcjieakdaaGreatDoor
section
open Go.RowKit Go.ChangeMaps Go.MapKept
variable {w : World} {L B t mb c : Nat} {F G : Nat → Nat} {T : Tr}
theorem b6d(T:Tr)(h:∀p∈T,(a1e p.2).length<=2000000):(T.map fun p=>a1e p.2).flatten.length<=T.length * 2000000:=by
 induction T with
 | nil=>simp
 | cons p r a=>
  have d:=a (fun q b=>h q (AI _ b));have c:=h p (AL ..);rw[Au,Bg,Af,AA];omega
theorem a7T(T:Tr)(j:Nat)(h:∀p∈T,(a1e p.2).length<=2000000)(b:T.length<=64):(((T.take j).map fun p=>a1e p.2).flatten).length<=128000000:=by
 have:=b6d (T.take j) (fun p a=>h p (Bv a));rw[Av] at this;have:min j T.length<=64:=by omega
 omega
theorem b5n(T:Tr)(j:Nat)(a:j<T.length):((T.take (j+1)).map fun p=>a1e p.2).flatten=((T.take j).map fun p=>a1e p.2).flatten ++a1e T[j].2:=by
 rw[Ar a,AZ,AT];simp
theorem a4x(h:TreeIn w L B t mb F G T)(ok:TrOk c T)(hc:c<=60000):
  Calls Tryz.prog 69 #[.pointer (some ⟨t,0,none⟩)] w fun e w'=>∃v,e= .returned v/\Own w' w.heap.size v (a0p T)/\Below w.heap.size w w':=by
 have E:=ok.len;have I:=qh (aI h ok);have aQ:∀p∈T,(a1e p.2).length<=2000000:=fun p H=>by
  have J:=a0s h.ne (k:=p.1) (v:=p.2) H;obtain⟨h1,Y⟩:=ok.item h J;exact a6u p.2 h1 Y (by have:=(ok.nd _ _ J).2.2.2.2;omega)
 have bh:=qh aQ;have bk:=qh h.ne;obtain⟨n,hn⟩:=qnm T.length;have HN:=qh hn;have HL:=qh (show n<=64 by omega);clear h ok aQ E hn;go_enter Tryz.func69,Tryz.ntmps69;go_wp2_with fail;refine(a2k w).mono ?_;rintro e w1 ⟨rfl,b8,hb1⟩;obtain⟨q,hq⟩:=qnm w.heap.size;have az:WI w w.heap.size w.heap.size w1 []:=⟨(Ext.refl w).step hb1,none,b8⟩
 have HQ:=qh hq;rw[<-hq] at az⊢;have am:=I.out.1.below hb1;have c0:=am.cell0;have bp:=b0t am.map n (by rw[a1p,HN.out]);clear b8 hb1 hq am;go_wp2_with fail;refine(a0H n az (by have:=HL.out;omega) (by unfold big;decide)).mono ?_;rintro e w2 ⟨rfl,a5⟩;clear az bp c0;have b7:=qh (show Below w.heap.size w w2 by have:=a5.1.1;rwa [HQ.out] at this);have HI:=qh (a8g (I.out.1.below b7.out) I.out.2);go_wp2_with fail;refine HI.out.mono ?_;rintro e w3 ⟨v3,rfl,ba,hb3⟩;obtain⟨a3,c3,rfl,bw,b2⟩:=ba.at (n:=n) (by rw[AC];exact HN.out.symm);rw[AJ] at a5;obtain⟨g0,b6,aC,aY⟩:=WJ.start_at a5 hb3;have av:=qh (aI b2 (aI aC aY));have aK:=qh b6;clear ba hb3 b2 a5 HI aC aY b6 b7;go_wp2_with fail;go_loopw [22] (fun k wr=>∃j:Nat,j<=n/\k= .int .i64 (j:Int)/\WJ w w3 q g0 wr (be n 2 ++((T.take j).map fun p=>a1e p.2).flatten)) (fun k _=>n - (intOf k).toNat);case atStart=>exact ⟨0,by omega,rfl,by simpa using aK.out⟩
 case round=>
  obtain⟨j,hj,rfl,hI⟩:=hrel;clear aK;by_cases aS:j<n
  ·obtain⟨g,rfl,br,hg,l⟩:=av.out.1 (by omega);have hn:=HN.out;have aE:=HL.out;have Q:j<(T.map (·.1)).length:=by rw[AC,<-hn];exact aS
   have c0:=(hI.cell hg (fun e=>by have:=av.out.2.2;omega) (fun e=>by have:=av.out.2.1 g e;omega)).trans (l j Q);have N:j<T.length:=by omega
   have J:getK (T.map (·.1))[j] T=some (T[j]'N).2:=by
    rw[List.getElem_map];exact a0s bk.out (AE N)
   have R:=b5n T j N;have aL:=a7T T j bh.out (by omega);generalize(T.map (·.1))[j]=i at c0 J;generalize(T[j]'N).2=x at J R;have A:=qh (show ∀W (g1:Option Nat) (w3:World) (L:List UInt8),WJ w w3 q g1 W L->Below w.heap.size w W from fun W g1 w3 L h=>by have:=h.1.1;rwa [HQ.out] at this);have f:=A.out _ _ _ _ hI;have al:=I.out.1.below f;obtain⟨hi,hid,b1,bj,aZ⟩:=I.out.2.nd i x J;obtain⟨hb4,ag⟩:=I.out.2.item I.out.1 J;have t0:=al.cell0;have bu:=al.hit J (by omega);obtain⟨_,v,m,Y,h3,h4,h5⟩:=I.out.1.item i x J;obtain⟨mo,rfl⟩:∃mo,m= .map mo:=by
    by_cases hk:x.n.kind=2
    ·exact⟨_,(h4 hk).1⟩
    ·exact⟨_,(h5 hk).1⟩
   obtain⟨vn,aj⟩:∃vn,x.b.length=vn:=⟨_,rfl⟩
   obtain⟨va,vc,rfl,aN⟩:=h3.bsn aj;have X:=qh (show ∀W,Below w.heap.size w W->W.heap[F i]? =some (.cells (itC x.n (.slice va vn vc) (.map mo)) a17 (0,0)) from fun W hb=>(hb.block _ (Array.getElem?_eq_some_iff.1 Y).1).trans Y);have ao:=qh (show ∀W,Below w.heap.size w W->_ from fun W hb=>b2d (w:=W) (x:=x) (mo:=mo) (B:=B) (nb:=G i) (fun hk=>⟨(h4 hk).1,(h4 hk).2.1,(h4 hk).2.2.below a0L hb⟩) h5 (by omega));obtain⟨d0,d1,d2,d3,d4,d5,d6,d7⟩:=a0m (X.out wr f);have aP:∀p∈x.names,p.2<=c:=fun p H=>by
    by_cases hk:x.n.kind=2
    ·obtain⟨_,_,hM⟩:=h4 hk;have bl:x.names.Pairwise (fun p q=>p.1≠q.1):=hM.srising.imp (fun {a b} aV e=>by rw[e] at aV;have:=a1L _ _ aV;exact absurd this (B3 _));obtain⟨⟨y,hy⟩,_⟩:=I.out.2.nm i x p.1 p.2 J (a0s bl H);exact(I.out.2.nd p.2 y hy).1
    ·rw[(h5 hk).2] at H;simp at H
   have bq:=qh J;have HX:=qh (aI ag (aI aZ (aI R (aI aL aP))));have b3:=qh (aI aN aj);have aD:=qh (b7B x.n wr b1);unfold Nd.cells at aD;have e1:(0:Int)<=(j:Int):=by omega
   have e2:(j:Int)<(n:Int):=by omega
   obtain⟨j2,bb⟩:=qnm (j+1);have e3:IntKind.i64.wrap ((j:Int)+1)=(j2:Int):=by rw[Ak _ (by omega)];omega
   have HJ:=qh bb;obtain⟨L0,a2⟩:=qnm (be n 2 ++((T.take j).map fun p=>a1e p.2).flatten);rw[<-a2] at hI;have a8:=qh (aI a2 (show L0.length<=128000002 by rw[a2,Af,a0d];omega));have HI:=qh hI;clear l J Q N R aL al hi hid b1 bj aZ hb4 ag Y h3 h4 h5 aj aN bb hn f a2 hI hg br aE aP hj;go_wp2_with fail;refine aD.out.mono ?_;rintro e w4 ⟨v4,rfl,z,hb4⟩;obtain⟨a4,c4,rfl,aR⟩:=z.bsn (n:=16) x.n.bytes_length;have aJ:=qh (a5K HI.out hb4 aR (fun _ ad r=>.inr (by subst r;exact z.ge _ rfl)) (by have:=a8.out.2;unfold big;omega));clear z hb4 aR;go_wp2_with fail;refine aJ.out.mono ?_;rintro e w5 ⟨rfl,au⟩;have hb5:=A.out _ _ _ _ au;obtain⟨_,_,_,_,_,_,d6,d7⟩:=a0m (X.out w5 hb5);have bA:=qh (show x.b.length<=4096 from(I.out.2.item I.out.1 bq.out).1);have bi:=qh (a5K au (Ab _ _) (b3.out.1.below hb5) (fun h0 ad r=>.inl (by
    rcases b3.out.1.2.2.2 with h1 | ⟨b,off,h1,Y,_⟩
    ·omega
    ·rw[h1] at r;injection r with r;subst r;rw[HQ.out];exact Y)) (by
    have h1:=a8.out.2;have Y:=a1J x.n.bytes;rw[Af];unfold big;omega))
   clear au hb5 aJ HI;go_wp2_with fail;refine bi.out.mono ?_;rintro e w6 ⟨rfl,Z⟩;have hb6:=A.out _ _ _ _ Z;obtain⟨_,_,_,_,_,_,d6,d7⟩:=a0m (X.out w6 hb6);obtain⟨E,_,_⟩:=ao.out w6 hb6;obtain⟨m,hm⟩:=qnm x.names.length;have HM:=qh hm;have bx:m<=60000:=by have:=HX.out.2.1;omega
   rw[<-hm] at E;obtain⟨L6,a7⟩:=qnm (L0 ++a0j x.n.bytes ++a0j x.b);rw[<-a7] at Z;have ah:=qh (aI a7 (show L6.length<=128000002+65537+65537 by
    have h1:=a8.out.2;have Y:=a1J x.n.bytes;have h3:=a1J x.b;rw[a7,Af,Af];omega))
   have b0:=qh (b0N m Z (by omega) (by have:=ah.out.2;unfold big;omega));clear Z hb6 bi hm a7;go_wp2_with fail;refine b0.out.mono ?_;rintro e w7 ⟨rfl,an⟩;have hb7:=A.out _ _ _ _ an;obtain⟨_,_,_,_,_,_,_,d7⟩:=a0m (X.out w7 hb7);have ap:=qh (ao.out w7 hb7).2.1;rw[<-HM.out] at ap;have aX:=qh an;clear an hb7 b0 E d6;go_wp2_with fail;refine(a8L mo w7).mono ?_;rintro e w8 ⟨rfl,rfl⟩;go_wp2_with fail;refine ap.out.mono ?_;rintro e w9 ⟨a9,c9,rfl,a0,aG,b4⟩;obtain⟨g9,bc,aF,bf,K⟩:=WJ.nest_at aX.out b4;have bo:=a0.2.1;have bt:c9<=9223372036854775807:=Ad a0.2.2.1 (by unfold maxLen;decide);have P:=qh (aI a0 (aI aF (aI bf (aI K aG))));have ax:=qh bc;obtain⟨L7,a1⟩:=qnm (L6 ++be m 2);rw[<-a1] at ax;have bd:=qh (aI a1 (show L7.length<=128000002+65537+65537+2 by have:=ah.out.2;rw[a1,Af,a0d];omega));clear a0 b4 aG bc aF bf K aX ap a1;go_wp2_with fail;go_loopw [63] (fun k2 wi=>∃o:Nat,o<=m/\k2= .int .i64 (o:Int)/\WJ w w9 q g9 wi (L7 ++a1d (x.names.take o))) (fun k2 _=>m - (intOf k2).toNat);case atStart=>exact ⟨0,by omega,rfl,by simpa[a1d] using ax.out⟩
   case round=>
    obtain⟨o,S,rfl,C⟩:=hrel;clear ax;by_cases af:o<m
    ·obtain⟨b,off,rfl,hb,l⟩:=P.out.1.at (by omega);have aO:=HM.out;have Q:o<(x.names.map (·.1)).length:=by rw[AC,<-aO];exact af
     have O:o<x.names.length:=by omega
     have ak:=P.out.2.2.2.2 _ rfl;have c0:=(C.cell hb (fun e=>by have:=P.out.2.2.1;simp only at ak;omega) (fun e=>by have:=P.out.2.1 b e;simp only at ak;omega)).trans (l o Q);have H:=AE O;have e0:(x.names.map (·.1))[o]=(x.names[o]'O).1:=by simp
     rw[e0] at c0;have d:=a85 x.names o O;have D:=HX.out.1 _ H;have aa:=HX.out.2.2.2.2 _ H;have aH:=a6o (x.names.take o) (fun p H=>HX.out.1 p (Bv H));have aW:(x.names.take o).length<=60000:=by rw[Av];omega
     have ay:=qh (show ∀W,Below w.heap.size w W->_ from fun W hb=>(ao.out W hb).2.2 _ H (by omega));generalize x.names[o]'O=pr at c0 d D aa ay;obtain⟨s,kk⟩:=pr;simp only at c0 d D aa ay;have aq:=a4B s wr;have f:=a2R wr s;have hB:=a5P wr s (by unfold maxLen;omega);obtain⟨bs,M⟩:=qnm (a3C wr s);obtain⟨wc,ar⟩:=qnm (b2v wr s);rw[<-M,<-ar] at aq hB;rw[<-ar] at f;obtain⟨sl,b9⟩:=qnm s.length;rw[<-b9] at aq hB;obtain⟨L8,a6⟩:=qnm (L7 ++a1d (x.names.take o));rw[<-a6] at C;have ai:=qh (aI a6 (show L8.length<=128000002+65537+65537+2+1200000 by have:=bd.out.2;rw[a6,Af];omega));have aT:=qh (a5K C f hB (fun _ ad r=>.inr (by injection r with r;subst r;exact Aa _)) (by have:=ai.out.2;unfold big;omega));have f1:(0:Int)<=(o:Int):=by omega
     have f2:(o:Int)<(m:Int):=by omega
     obtain⟨aB,u⟩:=qnm (o+1);have f3:IntKind.i64.wrap ((o:Int)+1)=(aB:Int):=by rw[Ak _ (by omega)];omega
     have aw:=qh (aI d (aI u (aI S (aI D aa))));clear l Q O H e0 d D aH aW f hB M ar a6 C u ak hb aO b9 S aa;go_wp2_with fail;refine aT.out.mono ?_;rintro e bg ⟨rfl,V⟩;have U:=A.out _ _ _ _ V;obtain⟨_,_,_,_,_,_,_,d7⟩:=a0m (X.out bg U);have bn:=ay.out bg U;have ab:=qh (b0N kk V (by have:=aw.out.2.2.2.2;omega) (by have h1:=ai.out.2;have Y:=a1J s;rw[Af];unfold big;omega));clear V U aT aq;go_wp2_with fail;refine ab.out.mono ?_;rintro e bz ⟨rfl,ac⟩;have b5:=qh ac;clear ac ab bn;go_wp2_with fail;go_roundw;case rel=>
      obtain⟨d,u,S,_,_⟩:=aw.out;refine⟨aB,by omega,rfl,?_⟩;rw[u,d,<-List.append_assoc,<-List.append_assoc,<-ai.out.1];exact b5.out
     case measure=>
      obtain⟨d,u,S,_,_⟩:=aw.out;show m - (aB:Int).toNat<m - (o:Int).toNat;omega
    ·obtain rfl:o=m:=by omega
     have ae:L7 ++a1d (x.names.take o)=be n 2 ++((T.take j2).map fun p=>a1e p.2).flatten:=by
      rw[Am (by rw[<-HM.out];exact Aa _),bd.out.1,ah.out.1,a8.out.1,HJ.out,HX.out.2.2.1];unfold a1e;rw[HM.out];simp only[List.append_assoc]
     rw[ae] at C;have bm:=qh (P.out.2.2.2.1 _ _ C);clear af S ae C;go_wp2_with fail;go_roundw;case rel=>exact ⟨j2,by have:=HJ.out;omega,rfl,bm.out⟩
     case measure=>
      have:=HJ.out;show n - (j2:Int).toNat<n - (j:Int).toNat;omega
  ·obtain rfl:j=n:=by omega
   have aA:=(show be j 2 ++((T.take j).map fun p=>a1e p.2).flatten=a0p T from by
    unfold a0p;rw[HN.out,Am (Aa _)])
   rw[aA] at hI;have f:=hI.1.1;rw[HQ.out] at f;have HD:=qh (a10 hI.wi (by rw[<-aA,Af,a0d];have:=a7T T j bh.out (by have:=HL.out;have:=HN.out;omega);unfold big;omega));have A:=qh f;clear aS hj aA hI f;go_wp2_with fail;refine HD.out.mono ?_;rintro e w4 ⟨da,dc,rfl,z,_,aU⟩;obtain⟨NN,aM⟩:=qnm ((a0p T).length);rw[<-aM] at z⊢;have HF:=qh (aI z aU);clear z aU aM;go_wp2_with fail;go_ret;refine⟨_,rfl,HF.out.1.base A.out.size,?_⟩;have:=HF.out.2.1.1
   rwa [HQ.out] at this
end
section
open Go.RowKit Go.ChangeMaps Go.MapKept
abbrev TState:TypeId:=136
abbrev a1A:TypeId:=243
abbrev a3d:TypeId:=245
abbrev a8A:TypeId:=249
structure Opn where
 wr:Bool
 id:Nat
 b:List UInt8
def OpnAt(w:World)(L g:Nat)(o:Opn):Prop:=∃v,w.heap[g]? =some (.cells #[.bool o.wr,.int .i64 (o.id:Int),v] a8A (0,0))/\Own w L v o.b
structure Sn where
 id:Nat
 hash:List UInt8
 T:Tr
structure SnS where
 l:List Sn
 next:Nat
 last:List UInt8
def a0U(s:Sn)(h:Value×Nat):List Value:=[.int .i64 (s.id:Int),h.1,.pointer (some ⟨h.2,0,none⟩)]
def SnapsAt(w:World)(L B C sn:Nat)(S:SnS):Prop:=
 B<=sn/\∃(d c:Value) (a:List (Value×Nat)),w.heap[sn]? =some (.cells #[d,.int .i64 (S.next:Int),c] a1A (0,0))/\Own w L c S.last/\a.length=S.l.length/\
  w.ownsRow B a3d 3 d S.l.length ((List.zipWith a0U S.l a).flatten)/\
  ∀i (e:i<S.l.length) (f:i<a.length),Own w L a[i].1 S.l[i].hash/\∃b:World,b.heap.size=C/\Below C b w/\TreeAt b L L a[i].2 S.l[i].T
structure StM where
 T:Tr
 S:SnS
 now:Nat
 fds:Nat->Option Opn
def fdV(fp:Nat->Option Nat)(i:Nat):Value:=.pointer ((fp i).map fun g=>⟨g,0,none⟩)
def stC(t sn a:Nat)(fp:Nat->Option Nat):Array Value:=#[.pointer (some ⟨t,0,none⟩),.pointer (some ⟨sn,0,none⟩),.int .u64 (a:Int),fdV fp 0,fdV fp 1,fdV fp 2,fdV fp 3,fdV fp 4,fdV fp 5,fdV fp 6,fdV fp 7]
structure StIn (w:World) (L B C s t sn:Nat) (fp:Nat->Option Nat) (σ:StM):Prop where
 sge:B<=s
 cel:w.heap[s]? =some (.cells (stC t sn σ.now fp) TState (0,0))
 tree:TreeAt w L B t σ.T
 snaps:SnapsAt w L B C sn σ.S
 no:∀i,i<8->σ.fds i=none->fp i=none
 fd:∀i o,i<8->σ.fds i=some o->∃g,fp i=some g/\L<=g/\OpnAt w L g o
def StAt(w:World)(L B C s:Nat)(σ:StM):Prop:=∃t sn fp,StIn w L B C s t sn fp σ
theorem OpnAt.below{w w':World}{L g:Nat}{o:Opn}(h:OpnAt w L g o)(a:Below w.heap.size w w'):OpnAt w' L g o:=by
 obtain⟨v,b,c⟩:=h;exact⟨v,(a.block g (Array.getElem?_eq_some_iff.1 b).1).trans b,c.below a⟩
theorem SnapsAt.below{w w':World}{L B C sn:Nat}{S:SnS}(h:SnapsAt w L B C sn S)(j:C<=w.heap.size)(a:Below w.heap.size w w'):SnapsAt w' L B C sn S:=by
 obtain⟨g,r,k,s,b,q,h3,e,m⟩:=h;refine⟨g,r,k,s,(a.block sn (Array.getElem?_eq_some_iff.1 b).1).trans b,q.below a,h3,a1t e a,fun i n o=>?_⟩;obtain⟨c,f,l,p,d⟩:=m i n o;exact⟨c.below a,f,l,p.trans (a.mono j),d⟩
variable {w w' : World} {L B C s t sn : Nat} {fp : Nat → Option Nat} {σ : StM}
theorem StIn.lt(h:StIn w L B C s t sn fp σ):s<w.heap.size:=(Array.getElem?_eq_some_iff.1 h.cel).1
theorem StIn.below(h:StIn w L B C s t sn fp σ)(hC:C<=w.heap.size)(hb:Below w.heap.size w w'):StIn w' L B C s t sn fp σ where
 sge:=h.sge
 cel:=(hb.block s h.lt).trans h.cel
 tree:=h.tree.below hb
 snaps:=h.snaps.below hC hb
 no:=h.no
 fd i o hi ho:=by obtain⟨g,h1,h2,h3⟩:=h.fd i o hi ho;exact⟨g,h1,h2,h3.below hb⟩
theorem StAt.below(h:StAt w L B C s σ)(b:C<=w.heap.size)(a:Below w.heap.size w w'):StAt w' L B C s σ:=by
 obtain⟨t,sn,fp,h⟩:=h;exact⟨t,sn,fp,h.below b a⟩
theorem StIn.frozen(h:StIn w L B C s t sn fp σ)(hL:L<=B):StIn w L L w.heap.size s t sn fp σ where
 sge:=Ad hL h.sge
 cel:=h.cel
 tree:=h.tree.weaken hL
 snaps:=by
  obtain⟨h0,lv,av,hs,h1,h2,h3,h4,h5⟩:=h.snaps;refine⟨Ad hL h0,lv,av,hs,h1,h2,h3,?_,fun i i1 i2=>?_⟩
  ·refine⟨h4.1,?_⟩;rcases h4.2 with h4 | ⟨g,cap,cur,h5,h6,h7⟩
   ·exact .inl h4
   ·exact .inr ⟨g,cap,cur,h5,Ad hL h6,h7⟩
  ·obtain⟨k1,w0,k2,k3,k4⟩:=h5 i i1 i2;exact⟨k1,w,rfl,Ab _ _,k4.below (by rw[k2];exact k3)⟩
 no:=h.no
 fd:=h.fd
theorem StAt.frozen(h:StAt w L B C s σ)(a:L<=B):StAt w L L w.heap.size s σ:=by
 obtain⟨t,sn,fp,h⟩:=h;exact⟨t,sn,fp,h.frozen a⟩
def AlienS(w:World)(k:Nat):Prop:=(∀C a c,w.heap[k]? =some (.cells C a c)->a≠TB/\a≠a17/\a≠TTree/\a≠TState/\a≠a1A/\a≠a3d/\a≠a8A)/\∀b d,w.heap[k]?≠some (.map b d)
theorem AlienS.alien{k:Nat}(h:AlienS w k):a5o w k:=⟨fun C f d e=>by obtain⟨a,b,c,_⟩:=h.1 C f d e;exact⟨a,b,c⟩,h.2⟩
theorem StIn.alien{S:Nat->Prop}(h:StIn w L L w.heap.size s t sn fp σ)(hc:Chg S w w')(hs:∀k,k<w.heap.size->S k->k<L∨AlienS w k):StIn w' L L w'.heap.size s t sn fp σ where
 sge:=h.sge
 cel:=(hc.block s h.lt (fun hS=>by
  rcases hs s h.lt hS with h6 | h6
  ·have:=h.sge;omega
  ·exact(h6.1 _ _ _ h.cel).2.2.2.1 rfl)).trans h.cel
 tree:=by
  obtain⟨mb,F,G,hT⟩:=h.tree;exact⟨mb,F,G,hT.alien (Aa _) hc (fun k hk hS=>(hs k hk hS).imp id AlienS.alien)⟩
 snaps:=by
  obtain⟨h0,lv,av,hh,h1,h2,h3,h4,h5⟩:=h.snaps;have hal:∀k,k<w.heap.size->S k->k<L∨a5o w k:=fun k hk hS=>(hs k hk hS).imp id AlienS.alien
  refine⟨h0,lv,av,hh,(hc.block sn (Array.getElem?_eq_some_iff.1 h1).1 (fun hS=>?_)).trans h1,h2.alien hc hal,h3,?_,fun i i1 i2=>?_⟩
  ·rcases hs sn (Array.getElem?_eq_some_iff.1 h1).1 hS with h6 | h6
   ·omega
   ·exact(h6.1 _ _ _ h1).2.2.2.2.1 rfl
  ·refine⟨h4.1,?_⟩;rcases h4.2 with h4 | ⟨g,cap,cur,k5,k6,k7,k8⟩
   ·exact .inl h4
   ·refine .inr ⟨g,cap,cur,k5,k6,(hc.block g (Array.getElem?_eq_some_iff.1 k7).1 (fun hS=>?_)).trans k7,k8⟩;rcases hs g (Array.getElem?_eq_some_iff.1 k7).1 hS with h6 | h6
    ·omega
    ·exact(h6.1 _ _ _ k7).2.2.2.2.2.1 rfl
  ·obtain⟨k1,w0,k2,k3,k4⟩:=h5 i i1 i2;obtain⟨mb,F,G,hT⟩:=k4.below (w':=w) (by rw[k2];exact k3);exact⟨k1.alien hc hal,w',rfl,Ab _ _,mb,F,G,hT.alien (Aa _) hc hal⟩
 no:=h.no
 fd i o hi ho:=by
  obtain⟨g,h1,h2,v,h3,h4⟩:=h.fd i o hi ho;refine⟨g,h1,h2,v,(hc.block g (Array.getElem?_eq_some_iff.1 h3).1 (fun hS=>?_)).trans h3,h4.alien hc (fun k hk hS=>(hs k hk hS).imp id AlienS.alien)⟩;rcases hs g (Array.getElem?_eq_some_iff.1 h3).1 hS with h6 | h6
  ·omega
  ·exact(h6.1 _ _ _ h3).2.2.2.2.2.2 rfl
theorem StAt.alien{S:Nat->Prop}(h:StAt w L L w.heap.size s σ)(b:Chg S w w')(a:∀k,k<w.heap.size->S k->k<L∨AlienS w k):StAt w' L L w'.heap.size s σ:=by
 obtain⟨t,sn,fp,h⟩:=h;exact⟨t,sn,fp,h.alien b a⟩
end
section
open Go.RowKit Go.ChangeMaps Go.MapKept
theorem a1U{a :Option TypeInfo}{z:Value}{s b:Nat}(h:a.map (fun i=>(i.zero,i.size,i.bytes))=some (some z,s,b)):∃i,a =some i/\i.zero=some z/\i.size=s/\i.bytes=b:=by
 cases a with
 | none=>cases h
 | some i=>simp at h;exact⟨i,rfl,h.1,h.2.1,h.2.2⟩
theorem b7G:(Tryz.prog.info? a3d).map (fun i=>(i.zero,i.size,i.bytes))=some (some (.agg #[.int .i64 0,.slice none 0 0,.pointer none]),3,40):=by kernel_rfl
theorem b1Z{B n:Nat}{l:Value}{xs:List Value}(w:World)(h:w.ownsRow B a3d 3 l n xs)(A:n<=100000)(p:∀u∈xs,u.oneCell'=true):
  Calls Tryz.prog 149 #[l] w fun e w'=>∃b,e= .returned b/\w'.ownsRow w.heap.size a3d 3 b n xs/\Below w.heap.size w w':=by
 obtain⟨i,q,d,c,f⟩:=a1U b7G;have m:=h.1;have a:=h;rcases h.2 with⟨rfl,s⟩ | ⟨g,cap,o,rfl,D,C,y⟩
 ·subst s;have v:xs=[]:=Ax.1 (by omega);subst v;refine(AnyE.slices_Clone_nil Tryz.cloneO 0 0 w).mono ?_;rintro e w' ⟨rfl,t⟩;exact⟨_,rfl,A6 _ _ _ _,by rw[t];exact Ab _ _⟩
 ·refine(AnyE.slices_Clone Tryz.cloneO i _ 3 40 q d c f rfl (by decide) (fun w=>Tryz.sizeOf245 w) g 0 n cap xs w m (by unfold maxLen;omega) (by omega) (fun j u k=>?_) p).mono ?_
  ·have z:j<xs.length:=by
    rcases BE j xs.length with h | h
    ·exact h
    ·rw[Bo h] at k;cases k
   rw[AD,A1 (size:=3) a j (by omega)];exact k
  ·rintro e w' ⟨b,rfl,x,_,r⟩;exact⟨b,rfl,x,r⟩
theorem a55(l:List Sn)(d:List (Value×Nat))(h:∀p∈d,p.1.oneCell'=true):∀u∈(List.zipWith a0U l d).flatten,u.oneCell'=true:=by
 intro u a;obtain⟨r,c,a⟩:=List.mem_flatten.1 a;rw[<-BK] at c;obtain⟨⟨s,p⟩,e,rfl⟩:=AX.1 c;have b:=(List.of_mem_zip e).2;simp only[Function.uncurry,a0U,AP,List.not_mem_nil,or_false] at a;rcases a with rfl | rfl | rfl
 ·rfl
 ·exact h _ b
 ·rfl
theorem Own.oneCell{w:World}{B:Nat}{v:Value}{xs:List UInt8}(h:Own w B v xs):v.oneCell'=true:=by
 rcases h.parts with⟨rfl,_⟩ | ⟨g,cap,rfl,_⟩ <;>rfl
theorem a1s{w:World}{B n size:Nat}{e:TypeId}{v:Value}{xs:List Value}(h:w.ownsRow B e size v n xs):∃a b c,v= .slice a b c:=by
 rcases h.2 with⟨rfl,_⟩ | ⟨g,cap,d,rfl,_⟩
 ·exact⟨_,_,_,rfl⟩
 ·exact⟨_,_,_,rfl⟩
def b5S:SnS:=⟨[],1,[]⟩
theorem b8r(w:World)(L B:Nat)(b:B<=w.heap.size)(C:Nat):SnapsAt (w.alloc (.cells #[.slice none 0 0,.int .i64 1,.slice none 0 0] a1A)) L B C w.heap.size b5S:=
 ⟨b,_,_,[],Ae w _,Own.nil _ _,rfl,A6 _ _ _ _,fun i a=>by simp[b5S] at a⟩
theorem b5t(w:World)(L C:Nat):
  Calls Tryz.prog 126 #[] w fun e w'=>∃a,e= .returned (.pointer (some ⟨a,0,none⟩))/\SnapsAt w' L w.heap.size C a b5S/\Below w.heap.size w w':=by
 have H:=qh (aI (b8r w L w.heap.size (Aa _) C) ((Ab w.heap.size w).alloc (Aa _) (.cells #[.slice none 0 0,.int .i64 1,.slice none 0 0] a1A)));go_enter Tryz.func126,Tryz.ntmps126;go_wp2_with fail;go_ret;exact⟨_,rfl,H.out.1,H.out.2⟩
theorem a8R{w:World}{L B C d:Nat}{S:SnS}(h:SnapsAt w L B C d S)(Y:C<=w.heap.size)(hl:S.l.length<=8):
  Calls Tryz.prog 76 #[.pointer (some ⟨d,0,none⟩)] w fun e w'=>∃v,e= .returned (.pointer (some ⟨v,0,none⟩))/\SnapsAt w' L w.heap.size C v S/\Below w.heap.size w w':=by
 obtain⟨_,lv,U,H,u,x,h3,z,y⟩:=h;have m:=a55 S.l H (fun p O=>by
  obtain⟨i,N,rfl⟩:=Bi O;exact(y i (by omega) N).1.oneCell)
 have A:=qh (fun w' (R:Below w.heap.size w w')=>b1Z w' (a1t z R) (by omega) m);have k:=qh (Array.getElem?_eq_some_iff.1 u).1;have M:=a0a u 0;have V:=a0a u 1;have c2:=a0a u 2;have T:=qh (aI x (aI h3 y));simp only[qge] at M V c2;obtain⟨E,D,G,rfl⟩:=a1s z;obtain⟨r,ac,o,rfl⟩:∃r ac o,U= .slice o r ac:=by
  obtain⟨a,c,rfl,_⟩:=x.bs;exact⟨_,_,_,rfl⟩
 clear u x h3 z y m;go_enter Tryz.func76,Tryz.ntmps76;go_upto_region 1 with fail
 refine a0h (fun i=>[0,1,2,3,4,5,6,7,8,9,10,11,12,13,14].contains i) (fun w'=>w'.cell? ⟨d,0,none⟩=some (Value.slice E D G)/\w'.cell? ⟨d,1,none⟩=some (Value.int .i64 (S.next:Int))/\w'.cell? ⟨d,2,none⟩=some (Value.slice o r ac)) (by kernel_rfl) ?_ (fun hHeld=>?_)
 ·go_keep
 refine qtk 0 3 ?_;refine qtk 1 4 ?_;refine qtk 2 5 ?_;refine qtk 3 6 ?_;refine qtk 5 8 ?_;refine qtk 6 9 ?_;refine qtk 7 10 ?_;refine qtk 8 11 ?_;refine qtk 9 12 ?_;refine qtk 10 13 ?_;refine qtk 11 14 ?_;refine qtk 12 15 ?_;refine qone 4 fun K hK=>?_
 go_simp;refine(A.out _ (Ab _ _).drew).mono ?_;rintro e w2 ⟨X,rfl,n,hb2⟩;obtain⟨t,q,s,rfl⟩:=a1s n;have hHeld:(fun w'=>w'.cell? ⟨d,0,none⟩=some (Value.slice E D G)/\w'.cell? ⟨d,1,none⟩=some (Value.int .i64 (S.next:Int))/\w'.cell? ⟨d,2,none⟩=some (Value.slice o r ac)) w2:=⟨(hb2.cell (p:=⟨d,0,none⟩) k.out).trans hHeld.1,(hb2.cell (p:=⟨d,1,none⟩) k.out).trans hHeld.2.1,(hb2.cell (p:=⟨d,2,none⟩) k.out).trans hHeld.2.2⟩
 go_wp2_with fail;refine hK.out _ _ (fun _=>hHeld) ?_;clear hK K;refine qtk 13 16 ?_;refine qone 14 fun K hK=>?_
 go_simp;have g:=(Ab w2.heap.size w2).alloc (Aa _) (.cells #[.slice t q s,.int .i64 (S.next:Int),.slice o r ac] a1A);have j:d<w2.heap.size:=Ai k.out hb2.size;refine hK.out _ _ (fun _=>⟨(g.cell (p:=⟨d,0,none⟩) j).trans hHeld.1,(g.cell (p:=⟨d,1,none⟩) j).trans hHeld.2.1,(g.cell (p:=⟨d,2,none⟩) j).trans hHeld.2.2⟩) ?_;clear hK K;refine qfr 15 2 ?_;refine qdon ?_;have f:Below w.heap.size w w2:=(Ab _ w).drew.trans hb2;have b:Below w.heap.size w (w2.alloc (.cells #[.slice t q s,.int .i64 (S.next:Int),.slice o r ac] a1A)):=f.trans (g.mono f.size);have F:=qh (aI (show SnapsAt (w2.alloc (.cells #[.slice t q s,.int .i64 (S.next:Int),.slice o r ac] a1A)) L w.heap.size C w2.heap.size S from by
  obtain⟨x,h3,y⟩:=T.out;refine⟨f.size,_,_,H,Ae w2 _,x.below b,h3,a1t n g,fun i i1 J=>?_⟩;obtain⟨I,W,Q,Z,P⟩:=y i i1 J;exact⟨I.below b,W,Q,Z.trans (b.mono Y),P⟩) b)
 clear g f b n hHeld hb2;go_wp2_with fail;go_ret;exact⟨_,rfl,F.out.1,F.out.2⟩
end
section
open Go.RowKit
abbrev a2U:TypeId:=89
abbrev a4r:TypeId:=141
def rcs:List Rc->List Value
 | []=>[]
 | r :: rs=>.int .i64 r.k :: .int .u64 (r.q:Int) :: .slice r.a r.m r.c :: rcs rs
theorem b0a:∀(rs a:List Rc),rcs (rs ++a)=rcs rs ++rcs a
 | [],_=>rfl
 | r :: rs,a=>by simp only[Be,rcs,b0a rs a]
theorem a99:∀(rs:List Rc) (i:Nat) (h:i<rs.length),(rcs rs)[i * 3]? =some (.int .i64 rs[i].k)/\(rcs rs)[i * 3+1]? =some (.int .u64 (rs[i].q:Int))/\(rcs rs)[i * 3+2]? =some (.slice rs[i].a rs[i].m rs[i].c)
 | r :: rs,0,_=>⟨rfl,rfl,rfl⟩
 | r :: rs,i+1,h=>by
  have b:=a99 rs i (by simpa using h);rw[show(i+1) * 3=i * 3+3 by omega];exact b
def OwnR(w:World)(B:Nat)(v:Value)(rs:List Rc):Prop:=
 w.ownsRow B a2U 3 v rs.length (rcs rs)/\∀r∈rs,r.q<18446744073709551616/\r.ys.length=r.m/\Own w B (.slice r.a r.m r.c) r.ys
theorem OwnR.nil(w:World)(B:Nat):OwnR w B (.slice none 0 0) []:=⟨A6 w B a2U 3,fun r h=>by simp at h⟩
theorem OwnR.below{w w':World}{B:Nat}{v:Value}{rs:List Rc}(h:OwnR w B v rs)(a:Below w.heap.size w w'):OwnR w' B v rs:=
 ⟨BC h.1 (row:=none) ⟨a.os,a.tape,a.output,a.size,fun k hk _=>a.block k hk⟩ (by cases v.ownBlock <;>simp),fun r b=>⟨(h.2 r b).1,(h.2 r b).2.1,(h.2 r b).2.2.below a⟩⟩
theorem OwnR.lt{w:World}{B:Nat}{v:Value}{rs:List Rc}(h:OwnR w B v rs):∀k,v.ownBlock=some k->B<=k/\k<w.heap.size:=A8 h.1
theorem OwnR.ty{w:World}{B:Nat}{v:Value}{rs:List Rc}(h:OwnR w B v rs):∀k,v.ownBlock=some k->∃C a,w.heap[k]? =some (.cells C a2U a):=by
 intro k hk;rcases h.1.2 with⟨rfl,_⟩ | ⟨g,cap,b,rfl,_,c,_⟩
 ·simp[Value.ownBlock] at hk
 ·have:g=k:=by simpa[Value.ownBlock] using hk
  subst this;exact⟨_,_,c⟩
theorem Own.tyb{w:World}{B:Nat}{v:Value}{xs:List UInt8}(h:Own w B v xs):∀k,v.ownBlock=some k->∃C a,w.heap[k]? =some (.cells C TB a):=by
 intro k hk;rcases h.parts with⟨rfl,_⟩ | ⟨g,cap,rfl,_,c⟩
 ·simp[Value.ownBlock] at hk
 ·have:g=k:=by simpa[Value.ownBlock] using hk
  subst this;obtain⟨b,d,_⟩:=c;exact⟨_,_,d⟩
theorem OwnR.recs{w:World}{B n:Nat}{v:Value}{rs:List Rc}(h:OwnR w B v rs)(q:rs.length=n):∃a cap,v= .slice a n cap/\Recs w a n cap rs:=by
 subst q;rcases h.1.2 with⟨rfl,k⟩ | ⟨g,cap,t,rfl,_,l,h3,o,z,s⟩
 ·exact⟨none,0,by rw[k],rfl,by omega,by unfold maxLen;omega,.inl k⟩
 ·refine⟨_,cap,rfl,rfl,h3,o,.inr ⟨g,0,rfl,(Array.getElem?_eq_some_iff.1 l).1,fun i m=>?_⟩⟩;obtain⟨r,g1,g2⟩:=a99 rs i m;have b:∀j u,(rcs rs)[j]? =some u->w.cell? ⟨g,j,none⟩=some u:=fun j u c=>by
   rw[a0a l j];rw[<-s] at c;have p:j<rs.length * 3:=by
    have:=(AG.1 c).1;simp at this;omega
   rw[AS,Ah p] at c;simpa using c
  have e:=h.2 _ (AE m);obtain⟨y,A,d,f⟩:=e.2.2.bsn e.2.1;injection d with d _ x
  subst d;subst x;exact⟨by rw[AD];exact b _ _ r,by rw[AD];exact b _ _ g1,by rw[AD];exact b _ _ g2,e.1,f⟩
theorem a6l{w w':World}{B:Nat}{v:Value}{xs:List UInt8}{row:Option Nat}(h:Own w B v xs)(f:w.grownBy w' row)(g:∀k,row=some k->∃C c,w.heap[k]? =some (.cells C a2U c)):Own w' B v xs:=by
 have j:=h.tyb;refine BC h f ?_;cases hv:v.ownBlock with
 | none=>exact .inl rfl
 | some b=>
  refine .inr fun e=>?_
  obtain⟨C,c,i⟩:=j b hv;obtain⟨l,d,a⟩:=g b (by first | exact e | exact e.symm);rw[i] at a;injection a with a;injection a with _ a;exact absurd a (by decide)
theorem a8e:(Tryz.prog.info? a2U).map (fun i=>(i.zero,i.size,i.bytes))=some (some (.agg #[.int .i64 0,.int .u64 0,.slice none 0 0]),3,40):=by kernel_rfl
theorem a4C{w:World}(B:Nat)(v:Value)(rs:List Rc)(h:OwnR w B v rs)(r:Rc)(I:r.q<18446744073709551616)(F:r.ys.length=r.m)(H:Own w B (.slice r.a r.m r.c) r.ys)(y:TypeId)(z:rs.length+1<=1000000)(n:B<=w.heap.size):
  ∃f w',(Builtin.append_ #[a4r,a4r] y #[v,.slice (some ⟨w.heap.size,0,none⟩) 1 1]).run Tryz.prog (w.alloc (.cells #[.int .i64 r.k,.int .u64 (r.q:Int),.slice r.a r.m r.c] a2U))= .ok f w'/\OwnR w' B f (rs ++[r])/\
   (w.alloc (.cells #[.int .i64 r.k,.int .u64 (r.q:Int),.slice r.a r.m r.c] a2U)).grownBy w' v.ownBlock/\(f.ownBlock=v.ownBlock∨f.ownBlock=some (w.heap.size+1)):=by
 obtain⟨i,D,p,o,s⟩:=a1U a8e;have g:=(Ab _ w).alloc (Aa _) (.cells #[.int .i64 r.k,.int .u64 (r.q:Int),.slice r.a r.m r.c] a2U);have l:=h.below g;have b:=l.ty;obtain⟨f,w',A,E,t,_,G⟩:=run_append_own_at (P:=Tryz.prog) (w.alloc (.cells #[.int .i64 r.k,.int .u64 (r.q:Int),.slice r.a r.m r.c] a2U)) B a4r y a2U i (.agg #[.int .i64 0,.int .u64 0,.slice none 0 0]) 3 40 Tryz.underlying141 D p o s rfl (by decide) v rs.length (rcs rs)
  l.1 ⟨w.heap.size,0,none⟩ 1 1 [.int .i64 r.k,.int .u64 (r.q:Int),.slice r.a r.m r.c] (by simp) (fun j u d=>by
   have C:j=0∨j=1∨j=2:=by have:=(AG.1 d).1;simp at this;omega
   rcases C with rfl | rfl | rfl
   ·rw[show(⟨w.heap.size,0,none⟩:Addr).add 0=⟨w.heap.size,0,none⟩ from rfl,Az];simpa using d
   ·rw[show(⟨w.heap.size,0,none⟩:Addr).add 1=⟨w.heap.size,1,none⟩ from rfl,Az];simpa using d
   ·rw[show(⟨w.heap.size,0,none⟩:Addr).add 2=⟨w.heap.size,2,none⟩ from rfl,Az];simpa using d) (by
   intro u d;simp at d;rcases d with rfl | rfl | rfl <;>rfl) (by unfold maxLen;omega) (by omega) (by simp;omega)
 refine⟨f,w',A,⟨?_,fun x e=>?_⟩,t,?_⟩
 ·rw[b0a,Af];exact E
 ·rcases List.mem_append.1 e with e | e
  ·exact⟨(l.2 x e).1,(l.2 x e).2.1,a6l (l.2 x e).2.2 t b⟩
  ·obtain rfl:x=r:=by simpa using e
   exact⟨I,F,a6l (H.below g) t b⟩
 ·simpa using G
end
section
open Go.RowKit
abbrev TLog:TypeId:=143
structure LogM where
 sealed:Nat
 head:List UInt8
 next:Nat
 wait:List Rc
def logC(d:Nat)(s p g:Int)(a:Nat)(hv:Value)(next:Nat)(wv:Value):Array Value:=
 #[.pointer (some ⟨d,0,none⟩),.int .i64 s,.int .i64 p,.int .i64 g,.int .i64 (a:Int),hv,.int .u64 (next:Int),wv]
structure LogIn (w:World) (B l d:Nat) (s p g:Int) (hv wv:Value) (M:LogM):Prop where
 cel:w.heap[l]? =some (.cells (logC d s p g M.sealed hv M.next wv) TLog (0,0))
 hd:Own w B hv M.head
 wt:OwnR w B wv M.wait
theorem LogIn.lt{w:World}{B l d:Nat}{s p g:Int}{hv wv:Value}{M:LogM}(h:LogIn w B l d s p g hv wv M):l<w.heap.size:=(Array.getElem?_eq_some_iff.1 h.cel).1
theorem LogIn.below{w w':World}{B l d:Nat}{s p g:Int}{hv wv:Value}{M:LogM}(h:LogIn w B l d s p g hv wv M)(a:Below w.heap.size w w'):LogIn w' B l d s p g hv wv M:=
 ⟨(a.block l h.lt).trans h.cel,h.hd.below a,h.wt.below a⟩
variable {w : World} {B l d : Nat} {s p g : Int} {hv wv : Value} {M : LogM}
theorem a4S(h:LogIn w B l d s p g hv wv M)(c:M.next+M.wait.length<=4611686018427387904):
  Calls Tryz.prog 41 #[.pointer (some ⟨l,0,none⟩)] w fun e w'=>e= .returned (.int .u64 ((M.next+M.wait.length:Nat):Int))/\Below w.heap.size w w':=by
 obtain⟨n,b⟩:=qnm M.wait.length;obtain⟨a,cap,rfl,_⟩:=h.wt.recs b.symm;have i:w.cell? ⟨l,6,none⟩=some (.int .u64 (M.next:Int)):=a0a h.cel 6;have j:w.cell? ⟨l,7,none⟩=some (.slice a n cap):=a0a h.cel 7;rw[<-b] at c⊢;obtain⟨x,f⟩:=qnm M.next
 rw[<-f] at c i⊢;have m:IntKind.u64.wrap (n:Int)=(n:Int):=Bb _ (by omega);have k:IntKind.u64.wrap ((x:Int)+(n:Int))=((x+n:Nat):Int):=by rw[Bb _ (by omega)];omega
 clear h b f c;go_enter Tryz.func41,Tryz.ntmps41;go_upto_region 1 with fail
 refine a0K 11 (by kernel_rfl) (by kernel_rfl) rfl ?_;simp only[qtc,a3E];repeat still_step
 refine AK ?_;go_wp2_with fail;go_ret;exact⟨rfl,(Ab _ _).drew⟩
theorem a3x(h:LogIn w B l d s p g hv wv M):
  Calls Tryz.prog 107 #[.pointer (some ⟨l,0,none⟩)] w fun e w'=>e= .returned (.int .i64 (M.sealed:Int))/\w'=w:=by
 have a:w.cell? ⟨l,4,none⟩=some (.int .i64 (M.sealed:Int)):=a0a h.cel 4;clear h;go_enter Tryz.func107,Tryz.ntmps107;go_wp2_with fail;go_ret;exact⟨rfl,rfl⟩
theorem a5y(h:LogIn w B l d s p g hv wv M):
  Calls Tryz.prog 34 #[.pointer (some ⟨l,0,none⟩)] w fun e w'=>e= .returned (.int .i64 (M.wait.length:Int))/\w'=w:=by
 obtain⟨n,b⟩:=qnm M.wait.length;obtain⟨a,cap,rfl,_⟩:=h.wt.recs b.symm;have c:w.cell? ⟨l,7,none⟩=some (.slice a n cap):=a0a h.cel 7;rw[<-b];clear h b;go_enter Tryz.func34,Tryz.ntmps34;go_wp2_with fail;go_ret;exact⟨rfl,rfl⟩
theorem b30(h:LogIn w B l d s p g hv wv M)(f:0<=g/\g<=65535)(a:M.sealed<=65535):
  Calls Tryz.prog 48 #[.pointer (some ⟨l,0,none⟩)] w fun e w'=>e= .returned (.int .i64 (g - (M.sealed:Int)))/\Below w.heap.size w w':=by
 have j:w.cell? ⟨l,3,none⟩=some (.int .i64 g):=a0a h.cel 3;have c:w.cell? ⟨l,4,none⟩=some (.int .i64 (M.sealed:Int)):=a0a h.cel 4;obtain⟨x,b⟩:=qnm M.sealed;rw[<-b] at a c⊢;have i:IntKind.i64.wrap (g - (x:Int))=g - (x:Int):=Ak _ (by omega);clear h b a f;go_enter Tryz.func48,Tryz.ntmps48;go_upto_region 1 with fail
 refine a0K 10 (by kernel_rfl) (by kernel_rfl) rfl ?_;simp only[qtc,a3E];repeat still_step
 refine AK ?_;go_wp2_with fail;go_ret;exact⟨rfl,(Ab _ _).drew⟩
theorem a6s(h:LogIn w B l d s p g hv wv M)(o:M.head.length<=1000):
  Calls Tryz.prog 33 #[.pointer (some ⟨l,0,none⟩)] w fun e w'=>(∃v,e= .returned v/\Own w' w.heap.size v M.head)/\Below w.heap.size w w':=by
 obtain⟨a,cap,rfl,j⟩:=h.hd.bs;have m:w.cell? ⟨l,5,none⟩=some (.slice a M.head.length cap):=a0a h.cel 5;have b:=qh (a0V a M.head.length cap M.head w j (by unfold big;omega));obtain⟨n,c⟩:=qnm M.head.length;rw[<-c] at b m;clear h j o c;go_enter Tryz.func33,Tryz.ntmps33;go_wp2_with fail;refine b.out.mono ?_;rintro e q ⟨v,rfl,k,i⟩;have f:=qh (aI k i);clear k i;go_wp2_with fail;go_ret;exact⟨⟨v,rfl,f.out.1⟩,f.out.2⟩
end
end Go.Proofs.YtbemfdcjieakdaaGreatDoor
