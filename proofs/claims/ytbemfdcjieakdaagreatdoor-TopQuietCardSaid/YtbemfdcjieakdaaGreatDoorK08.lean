/- OpEnc; Ref4; DecS; QTame. -/
import Derived.Test.YtbemfdcjieakdaaGreatDoorK07
set_option maxRecDepth 100000
set_option maxHeartbeats 8000000
namespace Go.Proofs.YtbemfdcjieakdaaGreatDoor
section
open Go.RowKit
structure OvAt (w:World) (b:Nat) (k:Int) (ps ts:ByteArray) (fd at_ n:Int) (til:Nat) (sn:Int) (da:Option Addr) (dl dc:Nat):Prop where
 c0:w.cell? ⟨b,0,none⟩=some (.int .i64 k)
 c1:w.cell? ⟨b,1,none⟩=some (.string ps)
 c2:w.cell? ⟨b,2,none⟩=some (.string ts)
 c3:w.cell? ⟨b,3,none⟩=some (.int .i64 fd)
 c4:w.cell? ⟨b,4,none⟩=some (.int .i64 at_)
 c5:w.cell? ⟨b,5,none⟩=some (.int .i64 n)
 c6:w.cell? ⟨b,6,none⟩=some (.int .u64 (til:Int))
 c7:w.cell? ⟨b,7,none⟩=some (.int .i64 sn)
 c8:w.cell? ⟨b,8,none⟩=some (.slice da dl dc)
theorem OvAt.of{w:World}{b:Nat}{k:Int}{ps d:ByteArray}{fd a n:Int}{til:Nat}{f:Int}{c:Option Addr}{e dc:Nat}{t:TypeId}{g:Nat×Nat}
  (h:w.heap[b]? =some (.cells (a0b k ps d fd a n til f c e dc) t g)):OvAt w b k ps d fd a n til f c e dc:=
 ⟨a0a h 0,a0a h 1,a0a h 2,a0a h 3,a0a h 4,a0a h 5,a0a h 6,a0a h 7,a0a h 8⟩
structure AskAt (w:World) (b:Nat) (p t f q u s d:Bool):Prop where
 c0:w.cell? ⟨b,0,none⟩=some (.bool p)
 c1:w.cell? ⟨b,1,none⟩=some (.bool t)
 c2:w.cell? ⟨b,2,none⟩=some (.bool f)
 c3:w.cell? ⟨b,3,none⟩=some (.bool q)
 c4:w.cell? ⟨b,4,none⟩=some (.bool u)
 c5:w.cell? ⟨b,5,none⟩=some (.bool s)
 c6:w.cell? ⟨b,6,none⟩=some (.bool d)
theorem AskAt.of{w:World}{b:Nat}{p t f q u s d:Bool}{c:TypeId}{a:Nat×Nat}
  (h:w.heap[b]? =some (.cells #[.bool p,.bool t,.bool f,.bool q,.bool u,.bool s,.bool d] c a)):AskAt w b p t f q u s d:=
 ⟨a0a h 0,a0a h 1,a0a h 2,a0a h 3,a0a h 4,a0a h 5,a0a h 6⟩
theorem OvAt.below{w w':World}{b:Nat}{k:Int}{ps f:ByteArray}{fd a n:Int}{til:Nat}{j:Int}{d:Option Addr}{g dc:Nat}
  (h:OvAt w b k ps f fd a n til j d g dc) {B:Nat} (l:Below B w w') (c:b<B):OvAt w' b k ps f fd a n til j d g dc:=
 have e (i:Nat):w'.cell? ⟨b,i,none⟩=w.cell? ⟨b,i,none⟩:=l.cell (p:=⟨b,i,none⟩) c
 ⟨(e 0).trans h.c0,(e 1).trans h.c1,(e 2).trans h.c2,(e 3).trans h.c3,(e 4).trans h.c4,(e 5).trans h.c5,(e 6).trans h.c6,(e 7).trans h.c7,(e 8).trans h.c8⟩
theorem AskAt.below{w w':World}{b:Nat}{p t f q u s d:Bool}(h:AskAt w b p t f q u s d){B:Nat}(c:Below B w w')(a:b<B):AskAt w' b p t f q u s d:=
 have e (i:Nat):w'.cell? ⟨b,i,none⟩=w.cell? ⟨b,i,none⟩:=c.cell (p:=⟨b,i,none⟩) a
 ⟨(e 0).trans h.c0,(e 1).trans h.c1,(e 2).trans h.c2,(e 3).trans h.c3,(e 4).trans h.c4,(e 5).trans h.c5,(e 6).trans h.c6⟩
theorem b7y{p t f q u s d:Bool}{k j l:Nat}{fd c n o:Int}(h:a4E ⟨p,t,f,q,u,s,d⟩ k j l fd c n o=0):
  (p=true->k<=200)/\(t=true->j<=200)/\(f=true->∃m:Nat,fd=m/\m<65536)/\(q=true->(∃m:Nat,c=m/\m<65536)/\∃m:Nat,n=m/\m<65536)/\(s=true->∃m:Nat,o=m/\m<65536)/\(d=true->l<=600):=by
 unfold a4E at h;split at h
 ·cases h
 next i=>
  split at h
  ·cases h
  next g=>
   simp only[not_or] at i g;refine⟨fun e=>Nat.not_lt.1 fun a=>i.1 ⟨e,a⟩,fun e=>Nat.not_lt.1 fun a=>i.2.1 ⟨e,a⟩,fun e=>a30 (by have b:=fun a=>g.1 ⟨e,a⟩;simpa using b),
    fun e=>⟨a30 (by have b:=fun a=>g.2.1 ⟨e,.inl a⟩;simpa using b),a30 (by have b:=fun a=>g.2.1 ⟨e,.inr a⟩;simpa using b)⟩,
    fun e=>a30 (by have b:=fun a=>g.2.2 ⟨e,a⟩;simpa using b),fun e=>Nat.not_lt.1 fun a=>i.2.2 ⟨e,a⟩⟩
theorem b5M(k:Nat)(ps y:List UInt8)(fd i n:Int)(til:Nat)(I:Int)(Q:Option Addr)(dl dc:Nat)(V:List UInt8)(a:Ask)(ha:a2y k=some a)(w:World)(hB:Bs w Q dl dc V)
  (hr:a4E a ps.length y.length V.length fd i n I=0):
  Calls Tryz.prog 39 #[.agg (a0b k (a0c ps) (a0c y) fd i n til I Q dl dc)] w fun e w'=>∃v,e= .returned (.tuple #[v,.int .i64 0])/\Own w' w.heap.size v ((⟨k,ps,y,fd,i,n,til,I,V⟩:Ov).bytes a)/\Below w.heap.size w w':=by
 have kc:=a4B ps;have kd:=a4B y;have HA:=qh (fun w=>a9D k a ha w);obtain⟨H,hH⟩:=qnm w.heap.size;have HH:=qh hH;obtain⟨p,t,f,q,u,s,d⟩:=a;unfold a0b Ask.cells at *;simp only at HA;go_enter Tryz.func39,Tryz.ntmps39;go_upto_region 1 with fail
 go_wp2_with fail;refine(HA.out _).mono ?_;rintro e w1 ⟨rfl,hb1⟩;have a2:(w.alloc (.cells (a0b k (a0c ps) (a0c y) fd i n til I Q dl dc) 32)).heap[w.heap.size]? =some (.cells (a0b k (a0c ps) (a0c y) fd i n til I Q dl dc) 32 (0,0)):=Ae w _;have N:=(hb1.block w.heap.size (a0S _ _)).trans a2;have G:w.heap.size<w1.heap.size:=Ai (a0S _ _) hb1.size;have U:=(((Ext.refl w).alloc (.cells (a0b k (a0c ps) (a0c y) fd i n til I Q dl dc) 32)).step hb1).alloc (.cells #[.bool p,.bool t,.bool f,.bool q,.bool u,.bool s,.bool d] 164);have K:=(AW w1 (.cells #[.bool p,.bool t,.bool f,.bool q,.bool u,.bool s,.bool d] 164) _ G).trans N;have hA2:(w1.alloc (.cells #[.bool p,.bool t,.bool f,.bool q,.bool u,.bool s,.bool d] 164)).heap[w1.heap.size]? =_:=Ae w1 (.cells #[.bool p,.bool t,.bool f,.bool q,.bool u,.bool s,.bool d] 164);have Y:=OvAt.of K;have hK:=AskAt.of hA2;have x:w1.heap.size<(w1.alloc (.cells #[.bool p,.bool t,.bool f,.bool q,.bool u,.bool s,.bool d] 164)).heap.size:=a0S _ _;have b:w.heap.size<(w1.alloc (.cells #[.bool p,.bool t,.bool f,.bool q,.bool u,.bool s,.bool d] 164)).heap.size:=Nat.lt_trans G x;have R:=(((hB.alloc (.cells (a0b k (a0c ps) (a0c y) fd i n til I Q dl dc) 32))).below hb1).alloc (.cells #[.bool p,.bool t,.bool f,.bool q,.bool u,.bool s,.bool d] 164);clear a2 N K hA2 hb1 hB HA;rw[<-hH] at Y U b⊢;clear hH G;go_upto_region 2 with fail
 generalize w1.alloc (.cells #[.bool p,.bool t,.bool f,.bool q,.bool u,.bool s,.bool d] 164)=w2 at *;generalize w1.heap.size=A at *;have W:=qh (a8W k (a0c ps) (a0c y) fd i n til I Q dl dc ⟨p,t,f,q,u,s,d⟩ k ha w2);have S:∀xs:List UInt8,(a0c xs).size=xs.length:=fun xs=>rfl
 have T:V.length=dl:=R.1;rw[S,S,<-T,hr] at W;unfold a0b Ask.cells at W;simp only at W;rw[T,show ((0:Nat):Int)=0 from rfl] at W;clear T S;have D:=qh Y;have J:=qh hK;obtain⟨c0,c1,c2,c3,c4,c5,c6,c7,c8⟩:=Y;obtain⟨g0,g1,g2,g3,g4,g5,g6⟩:=hK;go_wp2_with fail;refine W.out.mono ?_;rintro e r ⟨rfl,hb3⟩;have aa:=U.step hb3;have h:=Ai x hb3.size;have b:=Ai b hb3.size;have Y:OvAt r H k (a0c ps) (a0c y) fd i n til I Q dl dc:=D.out.below hb3 (by assumption);have hK:AskAt r A p t f q u s d:=J.out.below hb3 x;have ai:=R.below hb3;have hF:=b7y hr;have ap:k<=17:=by have:=a3T ha;omega
 have L:=qh hF;clear c0 c1 c2 c3 c4 c5 c6 c7 c8 g0 g1 g2 g3 g4 g5 g6 W D J hb3 U R x hr hF ha;go_upto_region 7 with fail
 go_wp2_with fail;refine(a2k _).mono ?_;rintro e w4 ⟨rfl,ad,hb1⟩;have hI:WI r r.heap.size r.heap.size w4 []:=⟨(Ext.refl r).step hb1,none,ad⟩
 obtain⟨P,hP⟩:=qnm r.heap.size;rw[<-hP] at hI h b⊢;have HP:=qh hP;clear ad hb1 hP;have D:=qh Y;have J:=qh hK;clear Y hK;have d0:=hI.cell b D.out.c0;go_wp2_with fail;refine(a4v k hI (by omega) (by unfold big;decide)).mono ?_;rintro e w5 ⟨rfl,B⟩;rw[AJ] at B;clear d0 hI;have C:=B.cell h J.out.c0;have z:=B.cell b D.out.c1;go_upto_if 28 with fail
 go_cut [] (fun wx=>∃M,M=be k 1 ++(if p=true then a0j ps else[])/\M.length<=611/\WI r P P wx M);case first=>
  cases p
  ·go_wp2_with fail;go_meet;exact⟨_,rfl,by simp[a0d],by simpa using B⟩
  ·go_wp2_with fail;refine(a65 B (a2R _ ps) (a5P _ ps (by have:=L.out.1 (by trivial);unfold maxLen;omega)) (by(try simp[a0d]);unfold big;omega)).mono ?_;rintro e X ⟨rfl,c⟩;go_wp2_with fail;go_meet;have a9:=L.out.1 (by trivial);exact⟨_,rfl,by simp[a0d,a0j];omega,c⟩
 case rest=>
 clear C z B;obtain⟨L1,a5,aA,E⟩:=hcut;have al:=qh a5;clear a5;have C:=E.cell h J.out.c1;have z:=E.cell b D.out.c2;go_upto_if 35 with fail
 go_cut [] (fun wx=>∃M,M=L1 ++(if t=true then a0j y else[])/\M.length<=1221/\WI r P P wx M);case first=>
  cases t
  ·go_wp2_with fail;go_meet;exact⟨_,rfl,by simp;omega,by simpa using E⟩
  ·go_wp2_with fail;refine(a65 E (a2R _ y) (a5P _ y (by have:=L.out.2.1 (by trivial);unfold maxLen;omega)) (by(try simp[a0d]);unfold big;omega)).mono ?_;rintro e X ⟨rfl,c⟩;go_wp2_with fail;go_meet;have a9:=L.out.2.1 (by trivial);exact⟨_,rfl,by simp[a0d,a0j];omega,c⟩
 case rest=>
 clear C z E;obtain⟨L2,a4,ax,F⟩:=hcut;have am:=qh a4;clear a4;have C:=F.cell h J.out.c2;have z:=F.cell b D.out.c3;go_upto_if 42 with fail
 go_cut [] (fun wx=>∃M,M=L2 ++(if f=true then be fd.toNat 2 else[])/\M.length<=1831/\WI r P P wx M);case first=>
  cases f
  ·go_wp2_with fail;go_meet;exact⟨_,rfl,by simp;omega,by simpa using F⟩
  ·go_wp2_with fail;obtain⟨m,hm,a7⟩:=L.out.2.2.1 (by trivial);subst hm;refine(a0H m F (by omega) (by(try simp[a0d]);unfold big;omega)).mono ?_;rintro e X ⟨rfl,c⟩;go_wp2_with fail;go_meet;exact⟨_,rfl,by simp[a0d];omega,c⟩
 case rest=>
 clear C z F;obtain⟨L3,ae,av,j⟩:=hcut;have aj:=qh ae;clear ae;have C:=j.cell h J.out.c3;have z:=j.cell b D.out.c4;have d2:=j.cell b D.out.c5;go_upto_if 48 with fail
 go_cut [] (fun wx=>∃M,M=L3 ++(if q=true then(be i.toNat 2 ++be n.toNat 2) else[])/\M.length<=2441/\WI r P P wx M);case first=>
  cases q
  ·go_wp2_with fail;go_meet;exact⟨_,rfl,by simp;omega,by simpa using j⟩
  ·go_wp2_with fail;obtain⟨⟨m,hm,a7⟩,m2,ak,aq⟩:=L.out.2.2.2.1 (by trivial);subst hm ak;refine(a0H m j (by omega) (by(try simp[a0d]);unfold big;omega)).mono ?_;rintro e w8 ⟨rfl,j⟩;have d2:=j.cell b D.out.c5;go_wp2_with fail;refine(a0H m2 j (by omega) (by(try simp[a0d]);unfold big;omega)).mono ?_;rintro e X ⟨rfl,c⟩;go_wp2_with fail;go_meet;rw[List.append_assoc] at c;exact⟨_,rfl,by simp[a0d];omega,c⟩
 case rest=>
 clear C z d2 j;obtain⟨L4,a8,au,c⟩:=hcut;have ah:=qh a8;clear a8;have C:=c.cell h J.out.c4;have z:=c.cell b D.out.c6;go_upto_if 58 with fail
 go_cut [] (fun wx=>∃M,M=L4 ++(if u=true then be til 8 else[])/\M.length<=3051/\WI r P P wx M);case first=>
  cases u
  ·go_wp2_with fail;go_meet;exact⟨_,rfl,by simp;omega,by simpa using c⟩
  ·go_wp2_with fail;refine(a18 til c (by(try simp[a0d]);unfold big;omega)).mono ?_;rintro e X ⟨rfl,c⟩;go_wp2_with fail;go_meet;exact⟨_,rfl,by simp[a0d];omega,c⟩
 case rest=>
 clear C z c;obtain⟨L5,a3,az,o⟩:=hcut;have ag:=qh a3;clear a3;have C:=o.cell h J.out.c5;have z:=o.cell b D.out.c7;go_upto_if 64 with fail
 go_cut [] (fun wx=>∃M,M=L5 ++(if s=true then be I.toNat 2 else[])/\M.length<=3661/\WI r P P wx M);case first=>
  cases s
  ·go_wp2_with fail;go_meet;exact⟨_,rfl,by simp;omega,by simpa using o⟩
  ·go_wp2_with fail;obtain⟨m,hm,a7⟩:=L.out.2.2.2.2.1 (by trivial);subst hm;refine(a0H m o (by omega) (by(try simp[a0d]);unfold big;omega)).mono ?_;rintro e X ⟨rfl,c⟩;go_wp2_with fail;go_meet;exact⟨_,rfl,by simp[a0d];omega,c⟩
 case rest=>
 clear C z o;obtain⟨L6,a6,ar,l⟩:=hcut;have af:=qh a6;clear a6;have C:=l.cell h J.out.c6;have z:=l.cell b D.out.c8;go_upto_if 70 with fail
 go_cut [] (fun wx=>∃M,M=L6 ++(if d=true then a0j V else[])/\M.length<=4271/\WI r P P wx M);case first=>
  cases d
  ·go_wp2_with fail;go_meet;exact⟨_,rfl,by simp;omega,by simpa using l⟩
  ·go_wp2_with fail;refine(a5X l HP.out.symm ai (by(try simp[a0d]);unfold big;omega)).mono ?_;rintro e X ⟨rfl,c⟩;go_wp2_with fail;go_meet;have a9:=L.out.2.2.2.2.2 (by trivial);exact⟨_,rfl,by simp[a0d,a0j];omega,c⟩
 case rest=>
 clear C z l;obtain⟨L7,Z,ay,a1⟩:=hcut;have ao:=qh Z;clear Z;obtain⟨O,g,ac⟩:=a1;go_wp2_with fail;refine(a4u P P g _ _ ac (by unfold big;omega)).mono ?_;rintro e aw ⟨v,rfl,ho,a0⟩;go_wp2_with fail;go_ret2;have ab:=(aa.to (O.1.mono (Bt b))).step a0;have an:(⟨k,ps,y,fd,i,n,til,I,V⟩:Ov).bytes ⟨p,t,f,q,u,s,d⟩=L7:=by
  rw[ao.out,af.out,ag.out,ah.out,aj.out,am.out,al.out];unfold Ov.bytes Ov.tail;simp only[Int.toNat_natCast];cases q <;>simp [List.append_assoc]
 rw[<-HH.out];exact⟨v,rfl,by rw[an];exact ho.base (aa.to (O.1.mono (Bt b))).2,ab.1⟩
theorem b1X(k:Int)(ps g:ByteArray)(fd a n:Int)(til:Nat)(i:Int)(d:Option Addr)(h f:Nat)(b:a2y k=none)(w:World):
  Calls Tryz.prog 39 #[.agg (a0b k ps g fd a n til i d h f)] w fun e w'=>e= .returned (.tuple #[.slice none 0 0,.int .i64 30])/\Below w.heap.size w w':=by
 have c:=qh (fun w=>b4V k b w);unfold a0b Ask.cells at *;simp only at c;clear b;go_enter Tryz.func39,Tryz.ntmps39;go_upto_region 1 with fail
 go_wp2_with fail;refine(c.out _).mono ?_;rintro e j ⟨rfl,hb1⟩;go_wp2_with fail;go_ret2;exact⟨rfl,((((Ext.refl w).alloc _).step hb1).alloc _).1⟩
theorem b0i(k:Int)(ps l:ByteArray)(fd b n:Int)(til:Nat)(j:Int)(y:Option Addr)(i v:Nat)(a:Ask)(E:a2y k=some a)(w:World)(r:Nat)(J:a4E a ps.size l.size i fd b n j=r)(N:r≠0):
  Calls Tryz.prog 39 #[.agg (a0b k ps l fd b n til j y i v)] w fun e w'=>e= .returned (.tuple #[.slice none 0 0,.int .i64 (r:Int)])/\Below w.heap.size w w':=by
 have C:=qh (fun w=>a9D k a E w);obtain⟨H,D⟩:=qnm w.heap.size;have T:=qh D;obtain⟨p,t,f,q,u,s,d⟩:=a;have G:((r:Int) == 0)=false:=by simp;omega
 have X:((r:Int) != 0)=true:=by rw[bne,G];rfl
 clear N G;unfold a0b Ask.cells at *;simp only at C;go_enter Tryz.func39,Tryz.ntmps39;go_upto_region 1 with fail
 go_wp2_with fail;refine(C.out _).mono ?_;rintro e w1 ⟨rfl,hb1⟩;have B:(w.alloc (.cells (a0b k ps l fd b n til j y i v) 32)).heap[w.heap.size]? =some (.cells (a0b k ps l fd b n til j y i v) 32 (0,0)):=Ae w _;have h:=(hb1.block w.heap.size (a0S _ _)).trans B;have c:w.heap.size<w1.heap.size:=Ai (a0S _ _) hb1.size;have m:=(((Ext.refl w).alloc (.cells (a0b k ps l fd b n til j y i v) 32)).step hb1).alloc (.cells #[.bool p,.bool t,.bool f,.bool q,.bool u,.bool s,.bool d] 164);have g:=(AW w1 (.cells #[.bool p,.bool t,.bool f,.bool q,.bool u,.bool s,.bool d] 164) _ c).trans h;have hA2:(w1.alloc (.cells #[.bool p,.bool t,.bool f,.bool q,.bool u,.bool s,.bool d] 164)).heap[w1.heap.size]? =_:=Ae w1 (.cells #[.bool p,.bool t,.bool f,.bool q,.bool u,.bool s,.bool d] 164);have I:=OvAt.of g;have hK:=AskAt.of hA2;have z:w1.heap.size<(w1.alloc (.cells #[.bool p,.bool t,.bool f,.bool q,.bool u,.bool s,.bool d] 164)).heap.size:=a0S _ _;have x:w.heap.size<(w1.alloc (.cells #[.bool p,.bool t,.bool f,.bool q,.bool u,.bool s,.bool d] 164)).heap.size:=Nat.lt_trans c z;clear B h g hA2 hb1 C;rw[<-D] at I m x⊢;clear D c;go_upto_region 2 with fail
 generalize w1.alloc (.cells #[.bool p,.bool t,.bool f,.bool q,.bool u,.bool s,.bool d] 164)=w2 at *;generalize w1.heap.size=A at *;have o:=qh (a8W k ps l fd b n til j y i v ⟨p,t,f,q,u,s,d⟩ k E w2);rw[J] at o;unfold a0b Ask.cells at o;simp only at o;clear J E;obtain⟨L,P,U,V,M,S,K,O,Q⟩:=I;obtain⟨R,g1,g2,g3,g4,g5,g6⟩:=hK;go_wp2_with fail;refine o.out.mono ?_;rintro e W ⟨rfl,hb3⟩;have F:=m.step hb3;clear L P U V M S K O Q R g1 g2 g3 g4 g5 g6 o;go_wp2_with fail;go_ret2;rw[<-T.out];exact⟨rfl,F.1⟩
theorem b3J(k:Int)(ps c:List UInt8)(fd b n:Int)(til:Nat)(sn:Int)(g:Option Addr)(f h:Nat)(d:List UInt8)(w:World)(p:Bs w g f h d):
  Calls Tryz.prog 39 #[.agg (a0b k (a0c ps) (a0c c) fd b n til sn g f h)] w fun e w'=>∃v,e= .returned (.tuple #[v,.int .i64 ((opEnc ⟨k,ps,c,fd,b,n,til,sn,d⟩).2:Nat)])/\
   Own w' w.heap.size v (opEnc ⟨k,ps,c,fd,b,n,til,sn,d⟩).1/\Below w.heap.size w w':=by
 unfold opEnc;simp only;cases i:a2y k with
 | none=>
  refine(b1X k (a0c ps) (a0c c) fd b n til sn g f h i w).mono ?_;rintro e w' ⟨rfl,l⟩;exact⟨_,rfl,Own.nil _ _,l⟩
 | some a=>
  have o:=p.1;have q:(⟨k,ps,c,fd,b,n,til,sn,d⟩:Ov).right a=a4E a ps.length c.length d.length fd b n sn:=rfl;simp only;rw[q];by_cases j:a4E a ps.length c.length d.length fd b n sn=0
  ·rw[Ah j];obtain⟨m,rfl⟩:∃m:Nat,k=(m:Int):=⟨k.toNat,by have:=a3T i;omega⟩
   exact b5M m ps c fd b n til sn g f h d a i w p j
  ·rw[Ag j];refine(b0i k (a0c ps) (a0c c) fd b n til sn g f h a i w _ (by rw[<-o];rfl) j).mono ?_;rintro e w' ⟨rfl,l⟩;exact⟨_,rfl,Own.nil _ _,l⟩
theorem Own.blk{w:World}{B:Nat}{v:Value}{xs:List UInt8}(h:Own w B v xs):∀k,v.ownBlock=some k->B<=k:=by
 intro k hk;rcases h.parts with⟨rfl,_⟩ | ⟨g,c,rfl,a,_⟩
 ·simp[Value.ownBlock] at hk
 ·simp[Value.ownBlock] at hk;omega
end
section
open Go.RowKit
variable {R : World → List UInt8 × Nat → Prop} {TO TA : TypeId} {w : World} {H q O A : Nat} {C K Z : Array Value} {T : List UInt8 × Nat} {wx : World}
theorem a0w{w:World}{b:Nat}{o:Obj}(h:w.heap[b]? =some o):b<w.heap.size:=(Array.getElem?_eq_some_iff.1 h).1
theorem a0i{w:World}{b:Nat}{a:Array Value}{t:TypeId}(h:w.heap[b]? =some (.cells a t (0,0)))(i:Nat):w.frozen? ⟨b,i,none⟩=false:=by
 simp[World.frozen?,h]
theorem Own.setOther{w:World}{B:Nat}{v:Value}{xs:List UInt8}(h:Own w B v xs){p:Addr}(d:∀b,v.ownBlock=some b->b≠p.block)(u:Value):Own (w.setCell p u) B v xs:=by
 rcases h.parts with⟨rfl,rfl⟩ | ⟨g,cap,rfl,c,a⟩
 ·exact Own.nil _ _
 ·exact Own.of_row (a.setOther (d g rfl) u) c
theorem b7n(a:Option Addr)(b cap:Nat)(xs:List UInt8)(w:World)(h:Bs w a b cap xs)(n:b<=big):
  Calls Tryz.prog 52 #[.slice a b cap] w fun e w'=>∃q d,e= .returned (.pointer (some ⟨q,0,none⟩))/\Rd w' w.heap.size q d xs 0/\Below w.heap.size w w'/\∀k,d=some k->k<w'.heap.size:=by
 go_enter Tryz.func52,Tryz.ntmps52;go_wp2_with fail;refine(a0V a b cap xs _ h n).mono ?_;rintro e f ⟨v,rfl,o,c⟩;have j:=c.size;rcases o.parts with⟨rfl,rfl⟩ | ⟨g,l,rfl,p,i⟩
 ·go_wp2_with fail;go_ret;exact⟨_,none,rfl,⟨j,none,0,Ae f _,Bs.nil _,rfl,by simp,by simp⟩,((Ext.refl w).step c |>.alloc _).1,by simp⟩
 ·have m:=i.lt;go_wp2_with fail;go_ret;exact⟨_,some g,rfl,⟨j,_,l,Ae f _,(i.alloc _).bs,rfl,by simp;omega,by simp;omega⟩,((Ext.refl w).step c |>.alloc _).1,by simp;omega⟩
end
section
open Go.RowKit
theorem a7V(xs:List UInt8)(n:Nat):(a0c xs).extract 0 n=a0c (xs.take n):=by
 apply ByteArray.ext;simp[a0c,ByteArray.data_extract]
theorem b1d(xs:List UInt8)(n:Nat)(b:n<=1000000)(w:World):Calls Tryz.prog 30 #[.string (a0c xs),.int .i64 (n:Int)] w fun e w'=>e= .returned (.string (a0c (xs.take n)))/\w=w':=by
 by_cases h:n<xs.length
 ·have a:(n:Int)<((a0c xs).size:Int):=by show(n:Int)<((xs.length:Nat):Int);omega
  go_enter Tryz.func30,Tryz.ntmps30;go_wp2;go_ret;rw[<-a7V];exact⟨rfl,rfl⟩
 ·have a:((a0c xs).size:Int)<=(n:Int):=by show((xs.length:Nat):Int)<=(n:Int);omega
  rw[Am (by omega)];go_enter Tryz.func30,Tryz.ntmps30;go_wp2;go_ret;exact⟨rfl,rfl⟩
def b0q:Array Value:=#[.string ⟨#[47,97]⟩,.string ⟨#[47,98]⟩,.string ⟨#[47,99]⟩,.string ⟨#[47,97,47,97]⟩,.string ⟨#[47,97,47,98]⟩,.string ⟨#[47,98,47,97]⟩,.string ⟨#[47,98,47,98,47,97]⟩,.string ⟨#[47]⟩,.string ⟨#[47,99,47,97]⟩,.string ⟨#[47,98,47,98]⟩,.string ⟨#[47,65]⟩,.string ⟨#[97]⟩,.string ⟨#[47,97,47,47,98]⟩,.string ⟨#[47,97,47]⟩]
theorem b11(i:Nat)(a:i<14):∃xs,b0q[i]? =some (.string (a0c xs))/\xs.length<=10:=by
 have h:i=0∨i=1∨i=2∨i=3∨i=4∨i=5∨i=6∨i=7∨i=8∨i=9∨i=10∨i=11∨i=12∨i=13:=by omega
 rcases h with rfl | rfl | rfl | rfl | rfl | rfl | rfl | rfl | rfl | rfl | rfl | rfl | rfl | rfl <;>exact ⟨_,rfl,by decide⟩
theorem a4P(n:Int)(w:World):Calls Tryz.prog 28 #[.int .i64 n] w fun e w'=>(∃xs,e= .returned (.string (a0c xs))/\xs.length<=10)/\Below w.heap.size w w':=by
 go_enter Tryz.func28,Tryz.ntmps28;go_wp2_with fail;refine(a45 n 0 1048576 _ (by decide) (by decide) (by decide)).mono ?_;rintro e f ⟨rfl,rfl⟩;have c:=a5W n 0 1048576 (by decide);generalize a2e n 0 1048576=m at *;obtain⟨i,g,a⟩:∃i:Nat,m.tmod 14=(i:Int)/\i<14:=⟨(m.tmod 14).toNat,by have:=a9N m 14 (by decide);have:=b0P m 14 (by decide) (by rw[Int.tmod_eq_emod];split <;>omega);omega,by have:=a9N m 14 (by decide);omega⟩
 obtain⟨xs,d,b⟩:∃xs,(w.alloc (.cells b0q 9)).cell? ⟨w.heap.size,i,none⟩=some (.string (a0c xs))/\xs.length<=10:=by
  rw[a07];exact b11 i a
 unfold b0q at d;have g1:(0:Int)<=(i:Int):=by omega
 have g2:(i:Int)<14:=by omega
 clear c;go_wp2_with fail;go_ret;exact⟨⟨xs,rfl,b⟩,((Ext.refl w).alloc _).1⟩
end
end Go.Proofs.YtbemfdcjieakdaaGreatDoor
