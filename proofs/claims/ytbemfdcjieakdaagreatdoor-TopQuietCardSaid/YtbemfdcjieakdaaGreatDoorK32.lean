/- SegRead; SegNo; LogApp. -/
import Derived.Test.YtbemfdcjieakdaaGreatDoorK31
set_option maxRecDepth 100000
set_option maxHeartbeats 8000000
namespace Go.Proofs.YtbemfdcjieakdaaGreatDoor
section
open Go.RowKit
abbrev THd:TypeId:=175
theorem b1W{W W':World}{l:Nat}{v:Value}{rs:List Rc}{B:Nat}{C:Array Value}{f:TypeId}{j:Nat×Nat}(i:W.heap[l]? =some (.cells C f j))(n:f≠a2U)(o:f≠TB)(a:Chg (fun k=>k=l) W W')(c:OwnR W B v rs):OwnR W' B v rs:=by
 refine⟨?_,fun r d=>⟨(c.2 r d).1,(c.2 r d).2.1,a.own (c.2 r d).2.2 (fun k hk e=>?_)⟩⟩
 ·refine BC c.1 (row:=some l) ⟨a.os,a.tape,a.output,a.size,fun k hk g=>a.block k hk (fun e=>g (by rw[e]))⟩ ?_;cases hv:v.ownBlock with
  | none=>exact .inl rfl
  | some b=>
   refine .inr fun e=>?_
   injection e with e
   obtain⟨m,h,h3⟩:=c.ty b hv;rw[e,i] at h3;injection h3 with h3;injection h3 with _ h3;exact n h3
 ·obtain⟨m,h,h3⟩:=(c.2 r d).2.2.tyb k hk;rw[e,i] at h3;injection h3 with h3;injection h3 with _ h3;exact o h3
theorem b8f(w:World)(b:Nat)(d c g f e a:Value):Chg (fun k=>k=b) w ((((((w.setCell ⟨b,0,none⟩ d).setCell ⟨b,1,none⟩ c).setCell ⟨b,2,none⟩ g).setCell ⟨b,3,none⟩ f).setCell ⟨b,4,none⟩ e).setCell ⟨b,5,none⟩ a):=
 (((((a0x w b 0 d).two (a0x _ b 1 c)).two (a0x _ b 2 g)).two (a0x _ b 3 f)).two (a0x _ b 4 e)).two (a0x _ b 5 a)
theorem a20(i f c n:Nat)(P R:List UInt8)(b:P.length=32)(a:R.length=32):(a2g i f c n P R).length=78:=by simp[a2g,a0d,b,a]
def hd6(w:World)(M i f c n:Nat)(d b:Option Addr)(e a:Nat):Prop:=w.heap[M]? =some (.cells (a1f i f c n d e b a) THd (0,0))
theorem hd6.cells{w:World}{M i f c n:Nat}{d b:Option Addr}{e a:Nat}(h:hd6 w M i f c n d b e a):
  w.cell? ⟨M,0,none⟩=some (.int .i64 (i:Int))/\w.cell? ⟨M,1,none⟩=some (.int .u64 (f:Int))/\w.cell? ⟨M,2,none⟩=some (.int .i64 (c:Int))/\w.cell? ⟨M,3,none⟩=some (.int .i64 (n:Int))/\w.cell? ⟨M,4,none⟩=some (.slice d 32 e)/\w.cell? ⟨M,5,none⟩=some (.slice b 32 a):=
 ⟨a0a h 0,a0a h 1,a0a h 2,a0a h 3,a0a h 4,a0a h 5⟩
theorem hd6.below{w w':World}{M i f c n:Nat}{a d:Option Addr}{b rc:Nat}(h:hd6 w M i f c n a d b rc)(e:Below w.heap.size w w'):hd6 w' M i f c n a d b rc:=(e.block M (ltH h)).trans h
theorem a4X:∀ {a ls:List Rc},a.map Rc.core=ls.map Rc.core->a.map Rc.bytes=ls.map Rc.bytes
 | [],[],_=>rfl
 | [],_ :: _,h=>by simp at h
 | _ :: _,[],h=>by simp at h
 | x :: xs,y :: ys,h=>by
  simp only[Au,List.cons.injEq] at h⊢;refine⟨?_,a4X h.2⟩;obtain⟨b,c,h3⟩:=Cg .. ▸ (show(x.k,x.q,x.ys)=(y.k,y.q,y.ys) from h.1) |> fun h=>(by simpa using h:x.k=y.k/\x.q=y.q/\x.ys=y.ys)
  unfold Rc.bytes;rw[b,c,h3]
theorem b1Y{w:World}{B:Nat}:∀ {b ls:List Rc},b.map Rc.core=ls.map Rc.core->(∀r∈ls,a1Z r.k r.q r.ys.length)->(∀r∈b,r.q<18446744073709551616/\r.ys.length=r.m/\Own w B (.slice r.a r.m r.c) r.ys)->∀r∈b,a1Z r.k r.q r.m:=by
 intro b ls h d i r e;have o:r.core∈ls.map Rc.core:=by rw[<-h];exact List.mem_map_of_mem e
 obtain⟨s,p,l⟩:=AX.1 o;have f:=d s p;obtain⟨n,g,j⟩:s.k=r.k/\s.q=r.q/\s.ys=r.ys:=by simpa[Rc.core] using l
 rw[n,g,j,(i r e).2.1] at f;exact f
theorem b32:∀ {ls:List Rc},∀x∈ls.map Rc.bytes,x.length<=(a3F ls).length
 | [],x,h=>by simp at h
 | r :: rs,x,h=>by
  rw[a9F,Af];rcases AP.1 h with rfl | h
  ·omega
  ·have:=b32 x h;omega
theorem b10(k:Nat):a5I (List.replicate k 0)=true:=by
 unfold a5I;rw[Br];intro x a;obtain rfl:=(List.mem_replicate.1 a).2;rfl
theorem b1L(i f:Nat)(P:List UInt8)(ls:List Rc)(a:Option Addr)(cap:Nat)(w:World)(hB:Bs w a 1024 cap (segBytes i f P ls))(hi:i<=65535)(hf:f<=4611686018427387904)(hP:P.length=32)
  (b7:∀r∈ls,a1Z r.k r.q r.ys.length) (an:∀j (h:j<ls.length),ls[j].q=f+j) (b6:0<ls.length) (ab:ls.length<=1000) (bo:(a3F ls).length<=942):
  Calls Tryz.prog 105 #[.slice a 1024 cap] w fun e w'=>∃S F N E v A,e= .returned (.tuple #[.agg (a1f i f ls.length ((a3F ls).length:Nat) S N F E),v,.int .i64 0])/\
   Own w' w.heap.size (.slice S 32 N) P/\Own w' w.heap.size (.slice F 32 E) (a2P (ls.map Rc.bytes))/\OwnR w' w.heap.size v A/\A.map Rc.core=ls.map Rc.core/\Below w.heap.size w w':=by
 obtain⟨R,hR⟩:=qnm (a2P (ls.map Rc.bytes));have aN:R.length=32:=by rw[hR];exact a1H _
 obtain⟨c,hc⟩:=qnm ls.length;obtain⟨n,hn⟩:=qnm ((a3F ls).length);obtain⟨HD,ac⟩:=qnm (a2g i f c n P R);have aF:HD.length=78:=by rw[ac];exact a20 _ _ _ _ _ _ hP aN
 obtain⟨C,hC⟩:=qnm (crcMore 0 HD);have aC:=a2j 0 HD;rw[<-hC] at aC;have e0:segBytes i f P ls=HD ++(be C 4 ++(a3F ls ++List.replicate (942 - n) 0)):=by
  unfold segBytes;rw[<-hR,<-hc,<-hn,<-ac,<-hC]
 rw[e0] at hB;rw[<-hc] at b6 ab⊢;rw[<-hn] at bo⊢;rw[<-hR];have bG:=hB.2.1;have bD:=hB.2.2.1
 -- the parts of the row
 have aB:=hB.take (k:=78) (by omega);rw[Bk aF] at aB;have a8:(HD ++(be C 4 ++(a3F ls ++List.replicate (942 - n) 0))).drop 78=be C 4 ++(a3F ls ++List.replicate (942 - n) 0):=Cl aF;have a2:(HD ++(be C 4 ++(a3F ls ++List.replicate (942 - n) 0))).drop 82=a3F ls ++List.replicate (942 - n) 0:=by
  rw[show 82=78+4 by rfl,<-CD,a8,Cl (a0d _ _)]
 have aQ:(HD ++(be C 4 ++(a3F ls ++List.replicate (942 - n) 0))).drop (82+n)=List.replicate (942 - n) 0:=by
  rw[<-CD,a2,Cl hn.symm]
 have V:=(hB.drop (k:=78) (by omega)).take (k:=4) (by omega);rw[a8,Bk (a0d _ _)] at V;have Z:=(hB.drop (k:=82) (by omega)).take (k:=n) (by omega);rw[a2,Bk hn.symm] at Z;obtain⟨K,hK⟩:=qnm (82+n);rw[<-hK] at aQ;have af:=hB.drop (k:=K) (by omega);rw[aQ] at af;obtain⟨bF,Q⟩:∃ad,(if cap=K then a else a.map (·.add K))=ad:=⟨_,rfl⟩
 rw[Q] at af;rw[Ag (by omega)] at V Z;obtain⟨aA,bB⟩:∃x,Option.map (fun x=>({ block:=x.block,off:=x.off+78 }:Addr)) a=x:=⟨_,rfl⟩
 obtain⟨aX,bE⟩:∃x,Option.map (fun x=>({ block:=x.block,off:=x.off+82 }:Addr)) a=x:=⟨_,rfl⟩
 replace V:Bs w aA 4 (cap - 78) (be C 4):=by rw[<-bB];exact V
 replace Z:Bs w aX n (cap - 82) (a3F ls):=by rw[<-bE];exact Z
 have k1:(78:Int)<=(cap:Int):=by omega
 have k2:(82:Int)<=(cap:Int):=by omega
 have k3:¬cap=78:=by omega
 have k4:¬cap=82:=by omega
 have br:HD ++(be C 4 ++(a3F ls ++List.replicate (942 - n) 0))=be i 2 ++(be f 8 ++(be c 2 ++(be n 2 ++(P ++(R ++(be C 4 ++(a3F ls ++List.replicate (942 - n) 0))))))):=by
  rw[ac];unfold a2g;simp only[List.append_assoc]
 rw[br] at hB;obtain⟨w0,ai⟩:=qnm (w.alloc (.cells #[.int .i64 0,.int .u64 0,.int .i64 0,.int .i64 0,.slice none 0 0,.slice none 0 0] THd));have hb0:=qba ai;have aO:w0.heap[w.heap.size]? =some (.cells #[.int .i64 0,.int .u64 0,.int .i64 0,.int .i64 0,.slice none 0 0,.slice none 0 0] THd (0,0)):=by rw[ai];exact Ae w _
 have b9:=qh (a80 a 1024 cap _ w0 (hB.below hb0) (by unfold big;omega));obtain⟨H,hH⟩:=qnm w.heap.size;rw[<-hH] at aO;have X:=qh (aI b7 (aI an (aI hR (aI hc (aI hn (aI hP aN))))));have HB:=qh (aI aB (aI V (aI Z af)));have y:=qh (aI ai (aI hb0 (aI aO hH)));have HK:=qh (aI hK Q);have bA:(82:Int)+(n:Int)=(K:Int):=by omega
 have HC:=qh (aI hC aC);have aP:=qh (aI hf (aI b6 (aI ab bD)));clear b7 an hR hB aB V Z af ai hb0 aO hH hK hC aC e0 ac aF a8 a2 aQ br aN hc hn;have e1:IntKind.i64.wrap (82+(n:Int))=(K:Int):=by rw[Ak _ (by omega)];omega
 clear bA;go_enter Tryz.func105,Tryz.ntmps105;go_upto_region 3 with fail
 rw[<-y.out.1,<-y.out.2.2.2];go_wp2_with fail;refine b9.out.mono ?_;rintro e w1 ⟨q,rb,rfl,ag,hb1⟩;have bb:=qh (a2B i ag (by omega));have H1:=qh (aI hb1 (aI ag.rd.1 ag.qlt));clear ag hb1 b9;go_wp2_with fail;refine bb.out.mono ?_;rintro e w2 ⟨rfl,bk,b8⟩;have bg:=qh (a6j f bk (by have:=aP.out.1;omega));have H2:=qh b8;clear bk b8 bb;go_wp2_with fail;refine bg.out.mono ?_;rintro e w3 ⟨rfl,bq,b0⟩;have b5:=qh (a2B c bq (by omega));have H3:=qh (H2.out.two b0);clear bq b0 bg H2;go_wp2_with fail;refine b5.out.mono ?_;rintro e w4 ⟨rfl,aR,bc⟩;have aW:=qh (a2B n aR (by omega));have H4:=qh (H3.out.two bc);clear aR bc b5 H3;go_wp2_with fail;refine aW.out.mono ?_;rintro e w5 ⟨rfl,ba,bd⟩;have aT:=qh (a7i P 32 ba (by rw[hP];rfl));have H5:=qh (H4.out.two bd);clear ba bd aW H4;go_wp2_with fail;refine aT.out.mono ?_;rintro e w6 ⟨⟨vp,rfl,J⟩,bn,I⟩;have aS:=qh (a7i R 32 bn (by rw[X.out.2.2.2.2.2.2];rfl));have H6:=qh (aI (H5.out.two I) J);obtain⟨S,N,rfl,_⟩:=J.bsn (n:=32) hP;clear bn I aT J;go_wp2_with fail;refine aS.out.mono ?_;rintro e w7 ⟨⟨vr,rfl,a9⟩,bC,aJ⟩;obtain⟨F,E,rfl,_⟩:=a9.bsn (n:=32) X.out.2.2.2.2.2.2;obtain⟨w8,ae⟩:=qnm (w7.alloc (.cells #[.int .i64 (i:Int),.int .u64 (f:Int),.int .i64 (c:Int),.int .i64 (n:Int),.slice S 32 N,.slice F 32 E] THd));obtain⟨M,hM⟩:=qnm w7.heap.size;have H8:Hid (hd6 w8 M i f c n S F N E/\Own w8 w1.heap.size (.slice S 32 N) P/\Own w8 w1.heap.size (.slice F 32 E) R/\Below w0.heap.size w0 w8):=qh (by
  have aG:=qba ae;obtain⟨ax,J⟩:=H6.out;have ap:=ax.two aJ;have s5:=H5.out.size;have s6:=ax.size;obtain⟨hb1,bN,bI⟩:=H1.out;refine⟨by rw[hM,ae];exact Ae w7 _,((b3z J (by omega) aJ).base s5).below aG,(a9.base s6).below aG,?_⟩;exact(hb1.trans (ap.below hb1.size (fun k _ e=>by omega))).trans (aG.mono (Ad hb1.size ap.size)))
 have bh:=qh (aI ae hM);clear a9 bC aJ aS ae hM;go_upto_region 11 with(first
  | (rw[<-bh.out.1];rw[<-bh.out.2])
  | fail)
 obtain⟨hb1,hb2,hb3,hb4⟩:=HB.out;have aa:Below w.heap.size w w8:=y.out.2.1.trans (H8.out.2.2.2.mono y.out.2.1.size);have a3:=aa.drew;have az:=qh (a4j _ _ _ _ _ (hb1.below a3));rw[<-HC.out.1] at az;have aU:=qh (a8i C w8.drew HC.out.2);have bi:=qh (show ∀W,Below w.heap.size w W->Bs W aA 4 (cap - 78) (be C 4) from fun W h=>hb2.below h);have ah:=qh aa;clear hb1 hb2 hb3 hb4 aa a3;refine a0h (fun i=>[].contains i) (fun _=>True) (by kernel_rfl) ?_ (fun hHeld=>?_)
 ·trivial
 refine qfr 0 36 ?_;refine qfr 1 37 ?_;refine qfr 4 40 ?_;refine qfr 5 41 ?_;refine qone 2 fun K hK=>?_
 go_simp;refine(az.out).mono ?_;rintro e wx ⟨rfl,rfl⟩;go_wp2_with fail;refine hK.out _ _ (fun _=>hHeld) ?_;clear hK K;refine qone 3 fun K hK=>?_
 go_simp;refine(aU.out).mono ?_;rintro e w10 ⟨vf,rfl,aY,am⟩;obtain⟨fa,fc,rfl,aV⟩:=aY.bsn (n:=4) (a0d _ _);have D:=qh (show Below w8.heap.size w8 w10 from(Ab _ _).drew.trans am);have G:=qh (a6M fa aA 4 4 fc (cap - 78) _ _ w10 aV (bi.out w10 (ah.out.trans (D.out.mono ah.out.size))));rw[AB rfl] at G;clear aY am aV;go_wp2_with fail;refine hK.out _ _ (fun _=>hHeld) ?_;clear hK K;refine qone 6 fun K hK=>?_
 go_simp;refine(G.out).mono ?_;rintro e wy ⟨rfl,rfl⟩;go_wp2_with fail;refine hK.out _ _ (fun _=>hHeld) ?_;clear hK K;refine qfr 7 43 ?_;refine qdon ?_;clear hHeld az aU bi G;obtain⟨b3,b1,aZ,aE⟩:=H8.out;have O:=b3.below D.out;obtain⟨d0,d1,d2,d3,d4,d5⟩:=O.cells;have bQ:((c:Int) == 0)=false:=by rw[Al];have:=aP.out.2.1;omega
 have bw:¬(942:Int)<(n:Int):=by omega
 have bx:=HK.out.1;have k5:(82:Int)<=(K:Int):=by omega
 have k6:(K:Int)<=(cap:Int):=by omega
 have k7:(K:Int)<=1024:=by omega
 have bK:K - 82=n:=by omega
 clear bx;have L:Below w.heap.size w w10:=ah.out.trans (D.out.mono ah.out.size);have aL:=qh (a97 aX n (cap - 82) ls w10.drew i f n S F N E (HB.out.2.2.1.below L.drew) (by omega) X.out.1 X.out.2.1 aP.out.1 (by rw[<-X.out.2.2.2.1];exact ab));rw[<-X.out.2.2.2.1] at aL;have ak:=qh (aI O L);have bT:=ltH O;clear b3 b1 aZ aE O L;go_upto_region 15 with fail
 refine a0h (fun i=>[0,1,2,3,4,5,6,7,8,9,10,11].contains i) (fun w'=>w'.cell? ⟨M,0,none⟩=some (.int .i64 (i:Int))/\w'.cell? ⟨M,1,none⟩=some (.int .u64 (f:Int))/\w'.cell? ⟨M,2,none⟩=some (.int .i64 (c:Int))/\w'.cell? ⟨M,3,none⟩=some (.int .i64 (n:Int))/\w'.cell? ⟨M,4,none⟩=some (.slice S 32 N)/\w'.cell? ⟨M,5,none⟩=some (.slice F 32 E)) (by kernel_rfl) ?_ (fun hHeld=>?_)
 ·exact⟨d0,d1,d2,d3,d4,d5⟩
 refine qtk 0 55 ?_;refine qtk 1 56 ?_;refine qtk 2 57 ?_;refine qtk 3 58 ?_;refine qtk 4 59 ?_;refine qtk 5 60 ?_;refine qone 6 fun K hK=>?_
 go_simp;refine(aL.out).mono ?_;rintro e w12 ⟨bU,A,rfl,d,b,aw⟩;have u:Below w10.heap.size w10 w12:=(Ab _ _).drew.trans aw;have m:=ak.out.1.below u;have hHeld:=m.cells;have aj:=qh (aI m (aI (ak.out.2.trans (u.mono ak.out.2.size)) (aI (d.grownTo ak.out.2.size) b)));have a6:=qh (show Below w8.heap.size w8 w12 from D.out.trans (u.mono D.out.size));clear aw u m d b;go_wp2_with fail;refine hK.out _ _ (fun _=>hHeld) ?_;clear hK K;refine qtk 7 54 ?_;refine qtk 8 62 ?_;refine qtk 9 63 ?_;refine qtk 10 7 ?_;refine qtk 11 8 ?_;refine qdon ?_;clear hHeld aL;obtain⟨m,l,d,b⟩:=aj.out;obtain⟨d0,d1,d2,d3,d4,d5⟩:=m.cells;have aM:=qh (a7S bF (1024 - K) (cap - K) _ w12 (HB.out.2.2.2.below l));rw[b10] at aM;have Q:=HK.out.2;have aK:A.length=c:=by
  have:=An List.length b;simp only[AC] at this;rw[this,X.out.2.2.2.1]
 obtain⟨va,vc,rfl,T⟩:=d.recs aK;have bl:=qh aK;clear m l d b T aK;go_upto_region 16 with fail
 go_wp2_with fail;refine aM.out.mono ?_;rintro e w13 ⟨⟨bR,kt,bM,rfl,bm⟩,ao⟩;obtain rfl:kt=0:=by
  rcases BS kt with h | h
  ·exact h
  ·exact absurd (bm.1 h) (by simp)
 have o:=qh ao;clear bm ao aM Q;go_upto_region 18 with fail
 obtain⟨m,l,d,b⟩:=aj.out;have p:=m.below o.out;have aq:A.map Rc.bytes=ls.map Rc.bytes:=a4X b;obtain⟨bJ,bP,aH,T⟩:=(d.below o.out).recs bl.out;injection aH with aH bu bs
 subst aH bs;clear bu;obtain⟨d0,d1,d2,d3,d4,d5⟩:=p.cells;have ay:=qh (a7v va c vc A w13.drew (T.below (Ab _ _).drew) ab (b1Y b X.out.1 (d.2)));rw[aq] at ay;have z:Below w.heap.size w w13.drew:=(l.trans (o.out.mono l.size)).drew;have Y:=qh (show hd6 w13.drew M i f c n S F N E/\Below w.heap.size w w13.drew/\Below w12.heap.size w12 w13.drew from⟨p,z,o.out.drew⟩);have B:Below w8.heap.size w8 w13.drew:=(a6.out.trans (o.out.mono a6.out.size)).drew;have a0:=qh B;have bp:=qh (show ∀W,Below w13.drew.heap.size w13.drew W->Bs W F 32 E R from fun W hb=>by
  obtain⟨x1,x2,e,bz⟩:=(H8.out.2.2.1.below (B.trans (hb.mono B.size))).bsn (n:=32) X.out.2.2.2.2.2.2;injection e with e1 _ e3
  rw[e1,e3];exact bz)
 clear B;have bf:(ls.map Rc.bytes).length=c:=by rw[AC];exact X.out.2.2.2.1.symm
 have aD:=qh (aI bf (show ∀x∈ls.map Rc.bytes,x.length<=1000 from fun x hx=>by have:=b32 x hx;have:=X.out.2.2.2.2.1;omega));clear m l d b p z T aq bf;refine a0h (fun i=>[0,1,2,3,4,5,6].contains i) (fun w'=>w'.cell? ⟨M,0,none⟩=some (.int .i64 (i:Int))/\w'.cell? ⟨M,1,none⟩=some (.int .u64 (f:Int))/\w'.cell? ⟨M,2,none⟩=some (.int .i64 (c:Int))/\w'.cell? ⟨M,3,none⟩=some (.int .i64 (n:Int))/\w'.cell? ⟨M,4,none⟩=some (.slice S 32 N)/\w'.cell? ⟨M,5,none⟩=some (.slice F 32 E)) (by kernel_rfl) ?_ (fun hHeld=>?_)
 ·exact⟨d0,d1,d2,d3,d4,d5⟩
 refine qtk 0 77 ?_;refine qtk 3 80 ?_;refine qtk 4 81 ?_;refine qone 1 fun K hK=>?_
 go_simp;refine(ay.out).mono ?_;rintro e bt ⟨bH,rfl,au,a1⟩;have a5:=qh a1;obtain⟨la,lc,rfl,bj⟩:=au.ll aD.out.1;have b4:=qh (b0W c la lc _ bt bj aD.out.2 ab);have hHeld:=(Y.out.1.below a1).cells;clear au a1 bj;go_wp2_with fail;refine hK.out _ _ (fun _=>hHeld) ?_;clear hK K;refine qone 2 fun K hK=>?_
 go_simp;refine(b4.out).mono ?_;rintro e w15 ⟨bO,rfl,a7,ar⟩;rw[<-X.out.2.2.1] at a7;obtain⟨r5,c5,rfl,al⟩:=a7.bsn (n:=32) X.out.2.2.2.2.2.2;have s:=qh (show Below w13.drew.heap.size w13.drew w15 from a5.out.trans (ar.mono a5.out.size));have G:=qh (a6M r5 F 32 32 c5 E _ _ w15 al (bp.out w15 s.out));rw[AB rfl] at G;have hHeld:=(Y.out.1.below s.out).cells;clear a7 ar al;go_wp2_with fail;refine hK.out _ _ (fun _=>hHeld) ?_;clear hK K;refine qone 5 fun K hK=>?_
 go_simp;refine(G.out).mono ?_;rintro e wy ⟨rfl,rfl⟩;go_wp2_with fail;refine hK.out _ _ (fun _=>hHeld) ?_;clear hK K;refine qtk 6 83 ?_;refine qdon ?_;clear hHeld ay b4 G;obtain⟨p,z,_⟩:=Y.out;have av:=p.below s.out;have t:Below w8.heap.size w8 w15:=a0.out.trans (s.out.mono a0.out.size);have a4:Below w0.heap.size w0 w15:=H8.out.2.2.2.trans (t.mono H8.out.2.2.2.size);have g:=(a4.block H (ltH y.out.2.2.1)).trans y.out.2.2.1;obtain⟨d0,d1,d2,d3,d4,d5⟩:=av.cells;have z0:w15.cell? ⟨H,0,none⟩=some (.int .i64 0):=a0a g 0;have z1:w15.cell? ⟨H,1,none⟩=some (.int .u64 0):=a0a g 1;have z2:w15.cell? ⟨H,2,none⟩=some (.int .i64 0):=a0a g 2;have z3:w15.cell? ⟨H,3,none⟩=some (.int .i64 0):=a0a g 3;have z4:w15.cell? ⟨H,4,none⟩=some (.slice none 0 0):=a0a g 4;have z5:w15.cell? ⟨H,5,none⟩=some (.slice none 0 0):=a0a g 5;have f0:=a0e g 0;have f1:=a0e g 1;have f2:=a0e g 2;have f3:=a0e g 3;have f4:=a0e g 4;have f5:=a0e g 5;have bS:=ltH g;have HF:Hid (Own w15 w1.heap.size (.slice S 32 N) P/\Own w15 w1.heap.size (.slice F 32 E) R/\OwnR w15 w.heap.size (.slice va c vc) A/\A.map Rc.core=ls.map Rc.core/\Below w.heap.size w w15/\w15.heap[H]? =some (.cells #[.int .i64 0,.int .u64 0,.int .i64 0,.int .i64 0,.slice none 0 0,.slice none 0 0] THd (0,0))/\H<w1.heap.size):=qh (by
  obtain⟨_,J,a9,_⟩:=H8.out;obtain⟨_,l,d,b⟩:=aj.out;have U:Below w12.heap.size w12 w15:=Y.out.2.2.trans (s.out.mono Y.out.2.2.size);exact⟨J.below t,a9.below t,d.below U,b,l.trans (U.mono l.size),g,Ai (ltH y.out.2.2.1) H1.out.1.size⟩)
 clear p z av t a4 g Y a0 bp aD bl aj a6 o a5 s;go_wp2_with fail;refine Aj (v:=.tuple #[.agg (a1f i f c n S N F E),.slice va c vc,.int .i64 0]) (by simp[results,Tryz.results105,go_sem,a1f,z0,z1,z2,z3,z4,z5]) rfl ?_;obtain⟨g1,g2,g3,g4,g5,g6,g7⟩:=HF.out;have I:=b8f w15 H (.int .i64 (i:Int)) (.int .u64 (f:Int)) (.int .i64 (c:Int)) (.int .i64 (n:Int)) (.slice S 32 N) (.slice F 32 E);have b2:w.heap.size<=w1.heap.size:=Ad y.out.2.1.size H1.out.1.size;have bL:=y.out.2.2.2;refine⟨S,F,N,E,_,A,rfl,(I.own g1 (fun k hk e=>by have:=g1.ge k hk;omega)).base b2,(I.own g2 (fun k hk e=>by have:=g2.ge k hk;omega)).base b2,b1W g6 (by decide) (by decide) I g3,g4,g5.trans (I.below g5.size (fun k _ e=>by omega))⟩
def b6X:Value:=.agg #[.int .i64 0,.int .u64 0,.int .i64 0,.int .i64 0,.slice none 0 0,.slice none 0 0]
theorem a9X(i f c n:Nat)(P R D rest:List UInt8)(a:Option Addr)(cap:Nat)(w:World)(F:Bs w a 1024 cap (a2g i f c n P R ++(D ++rest)))(hi:i<=65535)(hf:f<=4611686018427387904)(hc:c<=65535)(hn:n<=65535)(hP:P.length=32)(hR:R.length=32)(hD:D.length=4)
  (u:be (crcMore 0 (a2g i f c n P R)) 4≠D):
  Calls Tryz.prog 105 #[.slice a 1024 cap] w fun e w'=>e= .returned (.tuple #[b6X,.slice none 0 0,.int .i64 14])/\Below w.heap.size w w':=by
 obtain⟨HD,s⟩:=qnm (a2g i f c n P R);have S:HD.length=78:=by rw[s];exact a20 _ _ _ _ _ _ hP hR
 rw[<-s] at F u;obtain⟨C,hC⟩:=qnm (crcMore 0 HD);have Q:=a2j 0 HD;rw[<-hC] at Q u;have au:=F.2.1;have ay:=F.2.2.1;have O:=F.take (k:=78) (by omega);rw[Bk S] at O;have G:(HD ++(D ++rest)).drop 78=D ++rest:=Cl S;have l:=(F.drop (k:=78) (by omega)).take (k:=4) (by omega);rw[G,Bk hD] at l;rw[Ag (by omega)] at l;obtain⟨N,ap⟩:∃x,Option.map (fun x=>({ block:=x.block,off:=x.off+78 }:Addr)) a=x:=⟨_,rfl⟩
 replace l:Bs w N 4 (cap - 78) D:=by rw[<-ap];exact l
 have k1:(78:Int)<=(cap:Int):=by omega
 have k2:(82:Int)<=(cap:Int):=by omega
 have k3:¬cap=78:=by omega
 have an:HD ++(D ++rest)=be i 2 ++(be f 8 ++(be c 2 ++(be n 2 ++(P ++(R ++(D ++rest)))))):=by
  rw[s];unfold a2g;simp only[List.append_assoc]
 rw[an] at F;obtain⟨Z,A⟩:=qnm (w.alloc (.cells #[.int .i64 0,.int .u64 0,.int .i64 0,.int .i64 0,.slice none 0 0,.slice none 0 0] THd));have hb0:=qba A;have Y:Z.heap[w.heap.size]? =some (.cells #[.int .i64 0,.int .u64 0,.int .i64 0,.int .i64 0,.slice none 0 0,.slice none 0 0] THd (0,0)):=by rw[A];exact Ae w _
 have ac:=qh (a80 a 1024 cap _ Z (F.below hb0) (by unfold big;omega));obtain⟨H,hH⟩:=qnm w.heap.size;rw[<-hH] at Y;have HX:=qh (aI hR hP);have HB:=qh (aI O l);have d:=qh (aI A (aI hb0 (aI Y hH)));have HC:=qh (aI hC (aI Q u));have ar:=qh (aI hf hD);clear F O l A hb0 Y hH hC Q s S G an hR u hD;go_enter Tryz.func105,Tryz.ntmps105;go_upto_region 3 with fail
 rw[<-d.out.1,<-d.out.2.2.2];go_wp2_with fail;refine ac.out.mono ?_;rintro e w1 ⟨q,rb,rfl,z,hb1⟩;have ae:=qh (a2B i z (by omega));have H1:=qh (aI hb1 (aI z.rd.1 z.qlt));clear z hb1 ac;go_wp2_with fail;refine ae.out.mono ?_;rintro e w2 ⟨rfl,ak,ab⟩;have ah:=qh (a6j f ak (by have:=ar.out.1;omega));have H2:=qh ab;clear ak ab ae;go_wp2_with fail;refine ah.out.mono ?_;rintro e w3 ⟨rfl,am,a8⟩;have aa:=qh (a2B c am (by omega));have H3:=qh (H2.out.two a8);clear am a8 ah H2;go_wp2_with fail;refine aa.out.mono ?_;rintro e w4 ⟨rfl,a0,af⟩;have a5:=qh (a2B n a0 (by omega));have H4:=qh (H3.out.two af);clear a0 af aa H3;go_wp2_with fail;refine a5.out.mono ?_;rintro e w5 ⟨rfl,ad,ag⟩;have a2:=qh (a7i P 32 ad (by rw[hP];rfl));have H5:=qh (H4.out.two ag);clear ad ag a5 H4;go_wp2_with fail;refine a2.out.mono ?_;rintro e w6 ⟨⟨vp,rfl,o⟩,al,y⟩;have a1:=qh (a7i R 32 al (by rw[HX.out.1];rfl));have H6:=qh (aI (H5.out.two y) o);obtain⟨pa,pc,rfl,_⟩:=o.bsn (n:=32) hP;clear al y a2 o;go_wp2_with fail;refine a1.out.mono ?_;rintro e w7 ⟨⟨vr,rfl,V⟩,aq,X⟩;obtain⟨ra,rc,rfl,_⟩:=V.bsn (n:=32) HX.out.1;obtain⟨w8,t⟩:=qnm (w7.alloc (.cells #[.int .i64 (i:Int),.int .u64 (f:Int),.int .i64 (c:Int),.int .i64 (n:Int),.slice pa 32 pc,.slice ra 32 rc] THd));obtain⟨M,hM⟩:=qnm w7.heap.size;have H8:Hid (hd6 w8 M i f c n pa ra pc rc/\Own w8 w1.heap.size (.slice pa 32 pc) P/\Own w8 w1.heap.size (.slice ra 32 rc) R/\Below Z.heap.size Z w8):=qh (by
  have T:=qba t;obtain⟨I,o⟩:=H6.out;have E:=I.two X;have s5:=H5.out.size;have s6:=I.size;obtain⟨hb1,ax,av⟩:=H1.out;refine⟨by rw[hM,t];exact Ae w7 _,((b3z o (by omega) X).base s5).below T,(V.base s6).below T,?_⟩;exact(hb1.trans (E.below hb1.size (fun k _ e=>by omega))).trans (T.mono (Ad hb1.size E.size)))
 have ai:=qh (aI t hM);clear V aq X a1 t hM;go_upto_region 11 with(first
  | (rw[<-ai.out.1];rw[<-ai.out.2])
  | fail)
 obtain⟨hb1,hb2⟩:=HB.out;have p:Below w.heap.size w w8:=d.out.2.1.trans (H8.out.2.2.2.mono d.out.2.1.size);have m:=p.drew;have L:=qh (a4j _ _ _ _ _ (hb1.below m));rw[<-HC.out.1] at L;have a3:=qh (a8i C w8.drew HC.out.2.1);have aj:=qh (show ∀W,Below w.heap.size w W->Bs W N 4 (cap - 78) D from fun W h=>hb2.below h);have U:=qh p;clear hb1 hb2 p m;refine a0h (fun i=>[].contains i) (fun _=>True) (by kernel_rfl) ?_ (fun hHeld=>?_)
 ·trivial
 refine qfr 0 36 ?_;refine qfr 1 37 ?_;refine qfr 4 40 ?_;refine qfr 5 41 ?_;refine qone 2 fun K hK=>?_
 go_simp;refine(L.out).mono ?_;rintro e wx ⟨rfl,rfl⟩;go_wp2_with fail;refine hK.out _ _ (fun _=>hHeld) ?_;clear hK K;refine qone 3 fun K hK=>?_
 go_simp;refine(a3.out).mono ?_;rintro e w10 ⟨vf,rfl,a6,B⟩;obtain⟨fa,fc,rfl,a4⟩:=a6.bsn (n:=4) (a0d _ _);have r:=qh (show Below w8.heap.size w8 w10 from(Ab _ _).drew.trans B);have J:=qh (a6M fa N 4 4 fc (cap - 78) _ _ w10 a4 (aj.out w10 (U.out.trans (r.out.mono U.out.size))));rw[Aq HC.out.2.2] at J;clear a6 B a4;go_wp2_with fail;refine hK.out _ _ (fun _=>hHeld) ?_;clear hK K;refine qone 6 fun K hK=>?_
 go_simp;refine(J.out).mono ?_;rintro e wy ⟨rfl,rfl⟩;go_wp2_with fail;refine hK.out _ _ (fun _=>hHeld) ?_;clear hK K;refine qfr 7 43 ?_;refine qdon ?_;clear hHeld L a3 aj J;obtain⟨ao,a9,a7,g⟩:=H8.out;have j:Below Z.heap.size Z w10:=g.trans (r.out.mono g.size);have b:=(j.block H (ltH d.out.2.2.1)).trans d.out.2.2.1;have z0:w10.cell? ⟨H,0,none⟩=some (.int .i64 0):=a0a b 0;have z1:w10.cell? ⟨H,1,none⟩=some (.int .u64 0):=a0a b 1;have z2:w10.cell? ⟨H,2,none⟩=some (.int .i64 0):=a0a b 2;have z3:w10.cell? ⟨H,3,none⟩=some (.int .i64 0):=a0a b 3;have z4:w10.cell? ⟨H,4,none⟩=some (.slice none 0 0):=a0a b 4;have z5:w10.cell? ⟨H,5,none⟩=some (.slice none 0 0):=a0a b 5;have f0:=a0e b 0;have f1:=a0e b 1;have f2:=a0e b 2;have f3:=a0e b 3;have f4:=a0e b 4;have f5:=a0e b 5;have az:=ltH b;have HF:=qh (show Below w.heap.size w w10 from d.out.2.1.trans (j.mono d.out.2.1.size));clear ao a9 a7 g j b H8 r U;go_wp2_with fail;refine Aj (v:=.tuple #[b6X,.slice none 0 0,.int .i64 14]) (by simp[results,Tryz.results105,go_sem,b6X,z0,z1,z2,z3,z4,z5]) rfl ?_;have y:=b8f w10 H (.int .i64 0) (.int .u64 0) (.int .i64 0) (.int .i64 0) (.slice none 0 0) (.slice none 0 0);have aw:=d.out.2.2.2;exact⟨rfl,HF.out.trans (y.below HF.out.size (fun k _ e=>by omega))⟩
theorem b5x:crcMore 0 (a2g 0 0 0 0 (List.replicate 32 0) (List.replicate 32 0))=1082872042:=by kernel_rfl
theorem b5w:List.replicate 1024 (0:UInt8)=a2g 0 0 0 0 (List.replicate 32 0) (List.replicate 32 0) ++(List.replicate 4 0 ++List.replicate 942 0):=by kernel_rfl
theorem a3J(a:Option Addr)(cap:Nat)(w:World)(b:Bs w a 1024 cap (List.replicate 1024 0)):
  Calls Tryz.prog 105 #[.slice a 1024 cap] w fun e w'=>e= .returned (.tuple #[b6X,.slice none 0 0,.int .i64 14])/\Below w.heap.size w w':=by
 rw[b5w] at b;exact a9X 0 0 0 0 _ _ _ _ a cap w b (by omega) (by omega) (by omega) (by omega) (by simp) (by simp) (by simp) (by rw[b5x];decide)
end
section
open Go.RowKit Go.ChangeMaps Go.MapKept
section
variable {P : Program} {ops : Array Oper} {Q : Exit → Act → World → Prop} {md : Region.Mode} {S : World → Prop} {bef : Nat → Bool}
theorem a0J{c:Nat}{b:Array Bool}{a:Act}{w:World}(i j:Nat){f e:Oper}(m:Region.ready md ops b=[i,j])(q:ops[i]? =some f)(n:ops[j]? =some e)
  (o:∀d:Act->World->Prop,Shut (∀a w,(bef i=true->S w)->a1h P md ops Q bef S c (b.setIfInBounds i true) a w->d a w)->if Region.wanted f (yielded ops a.tmps)=true then Oper.wp P f a w d Q else d (a.put f.dst undef) w)
  (p:∀d:Act->World->Prop,Shut (∀a w,(bef j=true->S w)->a1h P md ops Q bef S c (b.setIfInBounds j true) a w->d a w)->if Region.wanted e (yielded ops a.tmps)=true then Oper.wp P e a w d Q else d (a.put e.dst undef) w):
  a1h P md ops Q bef S (c+1) b a w:=by
 refine⟨fun l=>(by rw[m] at l;cases l),fun k hk=>?_⟩;rw[m] at hk;rcases AP.1 hk with rfl | hk
 ·exact wpOp_step q (fun d hK=>o d (fun a w h g=>hK a w ⟨h,g⟩))
 ·obtain rfl:=AQ.1 hk;exact wpOp_step n (fun d hK=>p d (fun a w h g=>hK a w ⟨h,g⟩))
end
theorem a5b{W:World}(B:Nat)(v:Value)(rs:List Rc)(h:W.ownsRow B a2U 3 v rs.length (rcs rs))(r:Rc)(g:Nat)(n:W.heap[g]? =some (.cells #[.int .i64 r.k,.int .u64 (r.q:Int),.slice r.a r.m r.c] a2U (0,0)))(p:TypeId)(s:rs.length+1<=1000000)(f:B<=W.heap.size):
  ∃d w',(Builtin.append_ #[a4r,a4r] p #[v,.slice (some ⟨g,0,none⟩) 1 1]).run Tryz.prog W= .ok d w'/\w'.ownsRow B a2U 3 d (rs ++[r]).length (rcs (rs ++[r]))/\W.grownBy w' v.ownBlock:=by
 obtain⟨i,z,e,l,o⟩:=a1U a8e;obtain⟨d,w',t,w,y,_,A⟩:=run_append_own_at (P:=Tryz.prog) W B a4r p a2U i (.agg #[.int .i64 0,.int .u64 0,.slice none 0 0]) 3 40 Tryz.underlying141 z e l o rfl (by decide) v rs.length (rcs rs)
  h ⟨g,0,none⟩ 1 1 [.int .i64 r.k,.int .u64 (r.q:Int),.slice r.a r.m r.c] (by simp) (fun j u b=>by
   have x:j=0∨j=1∨j=2:=by have:=(AG.1 b).1;simp at this;omega
   rcases x with rfl | rfl | rfl
   ·rw[show(⟨g,0,none⟩:Addr).add 0=⟨g,0,none⟩ from rfl,a0a n];simpa using b
   ·rw[show(⟨g,0,none⟩:Addr).add 1=⟨g,1,none⟩ from rfl,a0a n];simpa using b
   ·rw[show(⟨g,0,none⟩:Addr).add 2=⟨g,2,none⟩ from rfl,a0a n];simpa using b) (by
   intro u b;simp at b;rcases b with rfl | rfl | rfl <;>rfl) (by unfold maxLen;omega) (by omega) (by omega)
 refine⟨d,w',t,?_,y⟩;rw[b0a,Af];exact w
theorem a96{w:World}{B n:Nat}{v:Value}{rs:List Rc}(h:w.ownsRow B a2U 3 v rs.length (rcs rs))(z:∀r∈rs,r.q<18446744073709551616/\Bs w r.a r.m r.c r.ys)(s:rs.length=n):∃a cap,v= .slice a n cap/\Recs w a n cap rs:=by
 subst s;rcases h.2 with⟨rfl,e⟩ | ⟨g,cap,y,rfl,_,f,h3,o,A,x⟩
 ·exact⟨none,0,by rw[e],rfl,by omega,by unfold maxLen;omega,.inl e⟩
 ·refine⟨_,cap,rfl,rfl,h3,o,.inr ⟨g,0,rfl,(Array.getElem?_eq_some_iff.1 f).1,fun i l=>?_⟩⟩;obtain⟨t,g1,g2⟩:=a99 rs i l;have b:∀j u,(rcs rs)[j]? =some u->w.cell? ⟨g,j,none⟩=some u:=fun j u d=>by
   rw[a0a f j];rw[<-x] at d;have p:j<rs.length * 3:=by
    have:=(AG.1 d).1;simp at this;omega
   rw[AS,Ah p] at d;simpa using d
  have k:=z _ (AE l);exact⟨by rw[AD];exact b _ _ t,by rw[AD];exact b _ _ g1,by rw[AD];exact b _ _ g2,k.1,k.2⟩
theorem a84{w:World}{B B' n size:Nat}{e:TypeId}{v:Value}{xs:List Value}(h:w.ownsRow B e size v n xs)(i:B'<=B):w.ownsRow B' e size v n xs:=by
 refine⟨h.1,?_⟩;rcases h.2 with b | ⟨g,cap,a,d,f,c⟩
 ·exact .inl b
 ·exact .inr ⟨g,cap,a,d,Ad i f,c⟩
theorem b5L{W W':World}{B N:Nat}{v:Value}{rs:List Rc}{C:Array Value}{h:Nat×Nat}(a:Chg (fun k=>k=N) W W')(i:W.heap[N]? =some (.cells C a2U h))(hv:∀k,v.ownBlock=some k->k≠N)(c:OwnR W B v rs):OwnR W' B v rs:=by
 refine⟨BC c.1 (row:=some N) ⟨a.os,a.tape,a.output,a.size,fun k hk f=>a.block k hk (fun e=>f (by rw[e]))⟩ ?_,fun r d=>⟨(c.2 r d).1,(c.2 r d).2.1,a.own (c.2 r d).2.2 (fun k hk e=>?_)⟩⟩
 ·cases j:v.ownBlock with
  | none=>exact .inl rfl
  | some b=>exact .inr fun e=>hv b j (by injection e)
 ·obtain⟨l,g,h3⟩:=(c.2 r d).2.2.tyb k hk;rw[e,i] at h3;injection h3 with h3;injection h3 with _ h3;exact absurd h3 (by decide)
theorem a0G{W W':World}{B N:Nat}{v:Value}{xs:List UInt8}{C:Array Value}{b:TypeId}{f:Nat×Nat}(h:Chg (fun k=>k=N) W W')(g:W.heap[N]? =some (.cells C b f))(a:b≠TB)(c:Own W B v xs):Own W' B v xs:=h.own c (fun k hk e=>by
 obtain⟨i,d,h3⟩:=c.tyb k hk;rw[e,g] at h3;injection h3 with h3;injection h3 with _ h3;exact a h3)
theorem a0D{w w':World}{ops:Array Oper}{o:Oper}{a:Act}{K:Act->World->Prop}{Q:Exit->Act->World->Prop}{E:Prop}(b:Region.wanted o (yielded ops a.tmps)=true)(s x:Operand)(t:TypeId)
  (g:o.op= .call { callee:=.builtin .append,args:=#[s,x],argTypes:=#[t,t] }) (v u c:Value) (e:a.eval s=v) (f:a.eval x=u)
  (d:(Builtin.append_ #[t,t] o.type #[v,u]).run Tryz.prog w= .ok c w') (h:K (a.put o.dst c) w'):if Region.wanted o (yielded ops a.tmps)=true then Oper.wp Tryz.prog o a w K Q else E:=by
 rw[Ah b];unfold Oper.wp execOp;simp only[g,resolve,invoke,builtin,Cs,Cr,BJ,BO,Au,Bf,e,f,d];exact h
variable {w : World} {B l d : Nat} {s p g : Int} {hv wv : Value} {M : LogM}
theorem a1I{w:World}{l d:Nat}{s p g:Int}{a b:Nat}{hv wv:Value}(h:w.heap[l]? =some (.cells (logC d s p g a hv b wv) TLog (0,0))):
  w.cell? ⟨l,0,none⟩=some (.pointer (some ⟨d,0,none⟩))/\w.cell? ⟨l,1,none⟩=some (.int .i64 s)/\w.cell? ⟨l,2,none⟩=some (.int .i64 p)/\w.cell? ⟨l,3,none⟩=some (.int .i64 g)/\w.cell? ⟨l,4,none⟩=some (.int .i64 (a:Int))/\w.cell? ⟨l,5,none⟩=some hv/\w.cell? ⟨l,6,none⟩=some (.int .u64 (b:Int))/\w.cell? ⟨l,7,none⟩=some wv:=
 ⟨a0a h 0,a0a h 1,a0a h 2,a0a h 3,a0a h 4,a0a h 5,a0a h 6,a0a h 7⟩
theorem a34{w:World}{g:Nat}{k:Int}{q:Nat}{v:Value}(h:w.heap[g]? =some (.cells #[.int .i64 k,.int .u64 (q:Int),v] a2U (0,0))):
  w.cell? ⟨g,0,none⟩=some (.int .i64 k)/\w.cell? ⟨g,1,none⟩=some (.int .u64 (q:Int))/\w.cell? ⟨g,2,none⟩=some v:=⟨a0a h 0,a0a h 1,a0a h 2⟩
def AppS(w:World)(l d:Nat)(s p g:Int)(a b:Nat)(hv wv:Value)(N:Nat)(k:Int)(q:Nat)(v:Value):Prop:=
 w.heap[l]? =some (.cells (logC d s p g a hv b wv) TLog (0,0))/\w.heap[N]? =some (.cells #[.int .i64 k,.int .u64 (q:Int),v] a2U (0,0))
theorem AppS.below{w w':World}{l d:Nat}{s p g:Int}{b c:Nat}{hv wv:Value}{N:Nat}{k:Int}{q:Nat}{v:Value}(h:AppS w l d s p g b c hv wv N k q v)(a:Below w.heap.size w w'):AppS w' l d s p g b c hv wv N k q v:=
 ⟨(a.block l (ltH h.1)).trans h.1,(a.block N (ltH h.2)).trans h.2⟩
theorem AppS.cells{w:World}{l d:Nat}{s p g:Int}{a b:Nat}{hv wv:Value}{N:Nat}{k:Int}{q:Nat}{v:Value}(h:AppS w l d s p g a b hv wv N k q v):
  w.cell? ⟨l,7,none⟩=some wv/\w.cell? ⟨N,0,none⟩=some (.int .i64 k)/\w.cell? ⟨N,1,none⟩=some (.int .u64 (q:Int))/\w.cell? ⟨N,2,none⟩=some v:=
 ⟨(a1I h.1).2.2.2.2.2.2.2,(a34 h.2).1,(a34 h.2).2.1,(a34 h.2).2.2⟩
end
end Go.Proofs.YtbemfdcjieakdaaGreatDoor
