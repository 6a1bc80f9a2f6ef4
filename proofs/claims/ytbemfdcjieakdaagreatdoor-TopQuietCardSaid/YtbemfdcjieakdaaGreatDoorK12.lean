/- ShaSum; ShaOf; SegRowC. -/
import Derived.Test.YtbemfdcjieakdaaGreatDoorK05
import Derived.Test.YtbemfdcjieakdaaGreatDoorK07
set_option maxRecDepth 100000
set_option maxHeartbeats 8000000
namespace Go.Proofs.YtbemfdcjieakdaaGreatDoor
section
open Go.RowKit
theorem SB.at00{w:World}{g:Nat}{T:TypeId}{l:List UInt32}(h:SB w g T [] l [])(i:Nat)(x:UInt32)(b:l[i]? =some x):w.cell? ⟨g,i,none⟩=some (.int .u32 (wd x)):=by
 obtain⟨a,rfl⟩:=AG.1 b;have:=SB.cell h i a
 rwa [Ay,AD] at this
theorem Ext.upto{B:Nat}{a w w':World}(h:Ext B a w)(b:Below B w w'):Ext B a w':=⟨h.1.trans b,Ad h.2 b.size⟩
theorem a1M{w W:World}{B:Nat}{v:Value}{xs:List UInt8}(l:Ext B w W)(h:Own W B v xs)(i g f j:Int)(x:UInt32)(m:i=wd x / 16777216 % 256)(t:g=wd x / 65536 % 256)(u:f=wd x / 256 % 256)(h3:j=wd x % 256)(C:xs.length<=2000000){b:Array Oper}{rest:List Oper}{o:Oper}{a:Act}{Q:Exit->Act->World->Prop}(d:o.guard=none)(s y:Operand)
  (q:o.op= .call { callee:=.builtin .append,args:=#[s,y],argTypes:=#[30,30] }) (A:a.eval s=v) (p:a.eval y= .slice (some ⟨W.heap.size,0,none⟩) 4 4)
  (r:∀c W',Ext B w W'->Own W' B c (xs ++a0B x)->Chg (fun k=>v.ownBlock=some k) W W'->wpList Tryz.prog b Q rest (a.put o.dst c) W'):wpList Tryz.prog b Q (o :: rest) a (W.alloc (.cells #[.int .u8 i,.int .u8 g,.int .u8 f,.int .u8 j] TB)):=by
 have z:Bs (W.alloc (.cells #[.int .u8 i,.int .u8 g,.int .u8 f,.int .u8 j] TB)) (some ⟨W.heap.size,0,none⟩) 4 4 (a0B x):=by
  refine Bs.newRow W _ TB (0,0) 4 4 (a0B x) rfl (Aa _) (by simp[maxLen]) ?_;subst m t u h3;have e:∀n:Nat,bv (UInt8.ofNat n)= .int .u8 ((n:Int) % 256):=fun n=>by rw[bv,a7R]
  simp only[a0B,Au,Bf,e];unfold wd;rfl
 refine a1o d s y q B v xs A (h.alloc _) _ 4 4 (a0B x) p z (by omega) (by have:=l.2;simp;omega) fun c W' g1 g2 _=>r c W' ?_ g1 ?_
 ·exact(l.alloc _).grown g2 (fun k hk=>(A8 h k hk).1)
 ·exact((Chg.refl _ W).alloc _).grown g2 (fun k _ hk=>hk)
theorem b3e(B p:Nat)(g:Option Nat)(xs:List UInt8)(w:World)(h:Strm w B p g xs)(hl:xs.length<=1000000000):
  Calls Tryz.prog 275 #[.pointer (some ⟨p,0,none⟩)] w fun e w'=>∃v,e= .returned v/\Own w' w.heap.size v (sha xs)/\Below w.heap.size w w':=by
 obtain⟨aU,v,hS,hO,aX,aY⟩:=h;have hS:Sb w p (hashed xs).list v xs.length:=hS;obtain⟨r,hr⟩:=qnm ((a1P xs).length);obtain⟨av,cv,rfl,an⟩:=hO.bsn hr.symm;have aS:r<64:=by rw[hr,a13];omega
 obtain⟨H,hH⟩:=qnm w.heap.size;rw[<-hH];have HH:=qh hH;have a7:p<H:=by rw[hH];exact SB.lt hS
 have HS:=qh hS;have HX:=qh hr;obtain⟨A,U⟩:=qnm xs.length;have HN:=qh U;rw[<-U] at hl;obtain⟨Z,hZ⟩:=qnm ((119 - r % 64) % 64);have ao:(r+1+Z) % 64=56:=by omega
 have au:∀k,k<Z->(r+1+k) % 64≠56:=by omega
 have aR:Z<64:=by omega
 have HZ:=qh (aI ao (aI au hZ));have aQ:=qh (a0V av r cv (a1P xs) w an (by unfold big;omega));have ap:=hS.c72 (S8.list_length _);have R:=hS.c73 (S8.list_length _);rw[<-U] at R;have HC:=qh (aI ap R);have a4:=U;clear hS hO hH hr U hZ ao au an R;have aa:Hid (sha xs=(blocks ((a0Z (a1P xs) xs.length).length / 64) (hashed xs) (a0Z (a1P xs) xs.length)).bytes):=qh (b5u xs);rw[<-a4] at aa;clear a4;generalize a1P xs=O at *;go_enter Tryz.func275,Tryz.ntmps275;go_wp2_with fail;refine aQ.out.mono ?_;rintro e w1 ⟨v1,rfl,I,hb1⟩;rw[<-HH.out] at I;have J:Ext H w w1:=by rw[HH.out];exact(Ext.refl w).step hb1
 have aj:O.length<=2000000:=by rw[<-HX.out];omega
 clear ap hb1;go_wp2_with (at_builtin;refine a1g J I _ 0x80 rfl aj rfl _ _ rfl rfl rfl ?_);intro v2 w2 l T _;rw[b3F] at T;clear J I;go_upto_block 0 with fail
 go_cut [3] (fun v wr=>Ext H w wr/\Own wr H v (a9H O Z));case first=>
  obtain⟨a2,c2,rfl,_⟩:=T.bsn (n:=r+1) (by rw[a3u,HX.out]);go_wp2_with fail;go_loopw [3] (fun v wr=>∃(k:Nat) (av:Option Addr) (cv:Nat),k<=Z/\v= .slice av (r+1+k) cv/\Ext H w wr/\Own wr H v (a9H O k)) (fun v _=>r+1+Z - a7u v);case atStart=>exact ⟨0,a2,c2,by omega,rfl,l,T⟩
  case round=>
   obtain⟨k,av,cv,hk,rfl,K,ho⟩:=hrel;clear l T;by_cases M:k<Z
   ·have aK:(((r+1+k:Nat):Int) % 64 != 56)=true:=by rw[BG];have:=HZ.out.2.1 k M;omega
    have y:(a9H O k).length<=2000000:=by rw[a3u,<-HX.out];omega
    go_wp2_with (at_builtin;refine a1g K ho _ 0 rfl y rfl _ _ rfl rfl rfl ?_);intro v3 w3 l t _;rw[b3G] at t;obtain⟨a3,c3,rfl,_⟩:=t.bsn (n:=r+1+(k+1)) (by rw[a3u,<-HX.out]);go_wp2_with fail;go_roundw;case rel=>exact ⟨k+1,a3,c3,by omega,rfl,l,t⟩
    case measure=>simp [a7u];omega
   ·obtain rfl:k=Z:=by omega
    have aK:(((r+1+k:Nat):Int) % 64 != 56)=false:=by rw[Bz];have:=HZ.out.1;omega
    go_wp2_with fail;go_meet;exact⟨K,ho⟩
 case rest=>
  obtain⟨K,ho⟩:=hcut;clear l T;have aG:(a9H O Z).length<=1000100:=by rw[a3u,<-HX.out];omega
  have R:=(K.1.cell (p:=⟨p,73,none⟩) a7).trans HC.out.2;go_upto_block 2 with fail
  go_cut [3] (fun v wr=>Ext H w wr/\Own wr H v (a0Z O A));case first=>
   go_wp2_with fail;go_loopw [3,5] (fun v i wr=>∃j:Nat,j<=8/\i= .int .i64 (7 - (j:Int))/\Ext H w wr/\Own wr H v (a9H O Z ++(a0Z.be8 A).take j)) (fun _ i _=>(1+intOf i).toNat);case atStart=>exact ⟨0,by omega,rfl,K,by simpa using ho⟩
   case round=>
    obtain⟨j,hj,rfl,J,I⟩:=hrel;clear K ho;by_cases M:j<8
    ·have y:(a9H O Z ++(a0Z.be8 A).take j).length<=2000000:=by
      rw[Af];have:((a0Z.be8 A).take j).length<=j:=List.length_take_le _ _;omega
     have ay:=b6J A j M;generalize hL:a9H O Z ++(a0Z.be8 A).take j=L at *;have G:=qh (show L ++[(a0Z.be8 A).getD j 0]=a9H O Z ++(a0Z.be8 A).take (j+1) by rw[ay,<-hL,List.append_assoc]);clear ay hL;rcases(show j=0∨j=1∨j=2∨j=3∨j=4∨j=5∨j=6∨j=7 by omega) with rfl | rfl | rfl | rfl | rfl | rfl | rfl | rfl
     ·have hb0:(((a0Z.be8 A).getD 0 0).toNat:Int)=((8 * A / 72057594037927936:Nat):Int) % 256:=by
       show((UInt8.ofNat (8 * A / 72057594037927936)).toNat:Int)=_;rw[a7R]
      generalize(a0Z.be8 A).getD 0 0=x at *;have HB:=qh hb0;clear hb0;go_wp2_with (at_builtin;refine a1g J I _ x ?hb0 y rfl _ _ rfl rfl rfl ?_);case hb0=>rw [HB.out];omega
      intro v3 w3 l t _;rw[G.out] at t;go_wp2_with fail;go_roundw;case rel=>exact ⟨1,by omega,rfl,l,t⟩
      case measure=>simp [intOf]
     ·have hb1:(((a0Z.be8 A).getD 1 0).toNat:Int)=((8 * A / 281474976710656:Nat):Int) % 256:=by
       show((UInt8.ofNat (8 * A / 281474976710656)).toNat:Int)=_;rw[a7R]
      generalize(a0Z.be8 A).getD 1 0=x at *;have HB:=qh hb1;clear hb1;go_wp2_with (at_builtin;refine a1g J I _ x ?hb1 y rfl _ _ rfl rfl rfl ?_);case hb1=>rw [HB.out];omega
      intro v3 w3 l t _;rw[G.out] at t;go_wp2_with fail;go_roundw;case rel=>exact ⟨2,by omega,rfl,l,t⟩
      case measure=>simp [intOf]
     ·have hb2:(((a0Z.be8 A).getD 2 0).toNat:Int)=((8 * A / 1099511627776:Nat):Int) % 256:=by
       show((UInt8.ofNat (8 * A / 1099511627776)).toNat:Int)=_;rw[a7R]
      generalize(a0Z.be8 A).getD 2 0=x at *;have HB:=qh hb2;clear hb2;go_wp2_with (at_builtin;refine a1g J I _ x ?hb2 y rfl _ _ rfl rfl rfl ?_);case hb2=>rw [HB.out];omega
      intro v3 w3 l t _;rw[G.out] at t;go_wp2_with fail;go_roundw;case rel=>exact ⟨3,by omega,rfl,l,t⟩
      case measure=>simp [intOf]
     ·have hb3:(((a0Z.be8 A).getD 3 0).toNat:Int)=((8 * A / 4294967296:Nat):Int) % 256:=by
       show((UInt8.ofNat (8 * A / 4294967296)).toNat:Int)=_;rw[a7R]
      generalize(a0Z.be8 A).getD 3 0=x at *;have HB:=qh hb3;clear hb3;go_wp2_with (at_builtin;refine a1g J I _ x ?hb3 y rfl _ _ rfl rfl rfl ?_);case hb3=>rw [HB.out];omega
      intro v3 w3 l t _;rw[G.out] at t;go_wp2_with fail;go_roundw;case rel=>exact ⟨4,by omega,rfl,l,t⟩
      case measure=>simp [intOf]
     ·have hb4:(((a0Z.be8 A).getD 4 0).toNat:Int)=((8 * A / 16777216:Nat):Int) % 256:=by
       show((UInt8.ofNat (8 * A / 16777216)).toNat:Int)=_;rw[a7R]
      generalize(a0Z.be8 A).getD 4 0=x at *;have HB:=qh hb4;clear hb4;go_wp2_with (at_builtin;refine a1g J I _ x ?hb4 y rfl _ _ rfl rfl rfl ?_);case hb4=>rw [HB.out];omega
      intro v3 w3 l t _;rw[G.out] at t;go_wp2_with fail;go_roundw;case rel=>exact ⟨5,by omega,rfl,l,t⟩
      case measure=>simp [intOf]
     ·have hb5:(((a0Z.be8 A).getD 5 0).toNat:Int)=((8 * A / 65536:Nat):Int) % 256:=by
       show((UInt8.ofNat (8 * A / 65536)).toNat:Int)=_;rw[a7R]
      generalize(a0Z.be8 A).getD 5 0=x at *;have HB:=qh hb5;clear hb5;go_wp2_with (at_builtin;refine a1g J I _ x ?hb5 y rfl _ _ rfl rfl rfl ?_);case hb5=>rw [HB.out];omega
      intro v3 w3 l t _;rw[G.out] at t;go_wp2_with fail;go_roundw;case rel=>exact ⟨6,by omega,rfl,l,t⟩
      case measure=>simp [intOf]
     ·have hb6:(((a0Z.be8 A).getD 6 0).toNat:Int)=((8 * A / 256:Nat):Int) % 256:=by
       show((UInt8.ofNat (8 * A / 256)).toNat:Int)=_;rw[a7R]
      generalize(a0Z.be8 A).getD 6 0=x at *;have HB:=qh hb6;clear hb6;go_wp2_with (at_builtin;refine a1g J I _ x ?hb6 y rfl _ _ rfl rfl rfl ?_);case hb6=>rw [HB.out];omega
      intro v3 w3 l t _;rw[G.out] at t;go_wp2_with fail;go_roundw;case rel=>exact ⟨7,by omega,rfl,l,t⟩
      case measure=>simp [intOf]
     ·have hb7:(((a0Z.be8 A).getD 7 0).toNat:Int)=((8 * A / 1:Nat):Int) % 256:=by
       show((UInt8.ofNat (8 * A)).toNat:Int)=_;rw[a7R];simp
      generalize(a0Z.be8 A).getD 7 0=x at *;have HB:=qh hb7;clear hb7;go_wp2_with (at_builtin;refine a1g J I _ x ?hb7 y rfl _ _ rfl rfl rfl ?_);case hb7=>rw [HB.out];omega
      intro v3 w3 l t _;rw[G.out] at t;go_wp2_with fail;go_roundw;case rel=>exact ⟨8,by omega,rfl,l,t⟩
      case measure=>simp [intOf]
    ·obtain rfl:j=8:=by omega
     go_wp2_with fail;go_meet;exact⟨J,by rw[b5K O A Z (by rw[<-HX.out];exact HZ.out.2.2)];exact I⟩
  case rest=>
   obtain⟨K,ho⟩:=hcut;have V:=aa.out;clear aG R HC aj HZ aR;have aP:=a5w O A;have a9:=b3H O A;generalize a0Z O A=m at *;obtain⟨ar,aw⟩:=aP;obtain⟨Q,hQ⟩:=qnm (m.length / 64);rw[<-hQ] at ar V;have aW:Q<=3:=by rw[<-HX.out] at aw;omega
   have S:=qh V;obtain⟨am,cm,rfl,a0⟩:=ho.bsn ar;obtain⟨ge,rfl,aT,a5⟩:∃gm,am=some ⟨gm,0,none⟩/\H<=gm/\gm<wc.heap.size:=by
    rcases ho.parts with⟨h1,h2⟩ | ⟨g,c,h1,h2,h3⟩
    ·rw[h2] at a9;simp at a9
    ·injection h1 with h1;exact⟨g,h1,h2,h3.lt⟩
   have aZ:=a0.2.1;have aO:=a0.2.2.1;unfold maxLen at aO;clear hQ aw V ho a9;have a8:=HS.out;generalize hashed xs=s at *;have hg:=fun j (hj:j<8)=>(K.1.cell (p:=⟨p,[].length+j,none⟩) a7).trans (SB.cell a8 j hj)
   have g0:=hg 0 (by omega);have g1:=hg 1 (by omega);have g2:=hg 2 (by omega);have g3:=hg 3 (by omega);have g4:=hg 4 (by omega);have g5:=hg 5 (by omega);have g6:=hg 6 (by omega);have g7:=hg 7 (by omega);simp only[S8.list,List.getElem_cons_zero,List.getElem_cons_succ,Ay,AD] at g0 g1 g2 g3 g4 g5 g6 g7;have ae:=fun i (hi:i<64)=>Sb.cK a8 (S8.list_length _) i hi
   have ax:=qh ae;have P:=K.alloc (.cells #[.int .u32 (wd s.a),.int .u32 (wd s.b),.int .u32 (wd s.c),.int .u32 (wd s.d),.int .u32 (wd s.e),.int .u32 (wd s.f),.int .u32 (wd s.g),.int .u32 (wd s.h)] 389);have a6:=a0.alloc (.cells #[.int .u32 (wd s.a),.int .u32 (wd s.b),.int .u32 (wd s.c),.int .u32 (wd s.d),.int .u32 (wd s.e),.int .u32 (wd s.f),.int .u32 (wd s.g),.int .u32 (wd s.h)] 389);have Y:SB (wc.alloc (.cells #[.int .u32 (wd s.a),.int .u32 (wd s.b),.int .u32 (wd s.c),.int .u32 (wd s.d),.int .u32 (wd s.e),.int .u32 (wd s.f),.int .u32 (wd s.g),.int .u32 (wd s.h)] 389)) wc.heap.size T8 [] s.list []:=Ae wc _;obtain⟨gh,X⟩:=qnm wc.heap.size;have ai:H<=gh:=by rw[X];exact K.2
   rw[<-X] at Y a5;have aE:=qh X;clear X ae hg a8 K a0;go_upto_block 4 with fail
   clear g0 g1 g2 g3 g4 g5 g6 g7;rw[<-aE.out];generalize wc.alloc (.cells #[.int .u32 (wd s.a),.int .u32 (wd s.b),.int .u32 (wd s.c),.int .u32 (wd s.d),.int .u32 (wd s.e),.int .u32 (wd s.f),.int .u32 (wd s.g),.int .u32 (wd s.h)] 389)=w4 at *;go_cut [6] (fun pp wr=>pp= .pointer (some ⟨gh,0,none⟩)/\SB wr gh T8 [] (blocks Q s m).list []/\Ext H w wr);case first=>
    go_wp2_with fail;go_loopw [3] (fun v wr=>∃q o L C,q<=Q/\v= .slice (some ⟨ge,o,none⟩) L C/\Hid (L=64 * (Q - q))/\Bs wr (some ⟨ge,o,none⟩) L C (m.drop (64 * q))/\SB wr gh T8 [] (blocks q s m).list []/\Ext H w wr) (fun v _=>a7u v);case atStart=>exact ⟨0,0,_,_,by omega,rfl,qh (by omega),a6,Y,P⟩
    case round=>
     obtain⟨q,o,L,C,hq,rfl,G,hB,N,K⟩:=hrel;clear a6 Y P;by_cases M:q<Q
     ·have a1:64<=L:=by have:=G.out;omega
      have aM:=hB.2.1;have aC:=hB.2.2.1;unfold maxLen at aC;have c1:(64:Int)<=(L:Int):=by omega
      have c2:(64:Int)<=(C:Int):=by omega
      have aD:=hB.take (k:=64) a1;obtain⟨o2,aV,az⟩:∃o2,(if C=64 then(some ⟨ge,o,none⟩:Option Addr) else some ⟨ge,o+64,none⟩)=some ⟨ge,o2,none⟩/\∀W,Chg (fun i=>i=gh) wr W->Bs W (some ⟨ge,o2,none⟩) (L - 64) (C - 64) ((m.drop (64 * q)).drop 64):=by
       by_cases aq:C=64
       ·exact⟨o,by rw[Ah aq],fun W hC=>(hB.none_left _ (by omega) (by omega)).chg hC (fun h=>by omega)⟩
       ·exact⟨o+64,by rw[Ag aq],fun W hC=>(hB.off a1).chg hC (fun _ ad aL e=>by cases aL;exact absurd e (by show ¬ge=gh;omega))⟩
      have af:=qh az;have HT:=qh (fun W (hb:Below wr.heap.size wr W)=>b0O gh T8 [] [] (blocks q s m) p 8 ge o 64 C ((m.drop (64 * q)).take 64) W (SB.below N hb) (fun i hi=>((K.step hb).1.cell (p:=⟨p,8+i,none⟩) a7).trans (ax.out i hi)) (aD.below hb) (Aa _));clear az aD hB;go_upto_region 12 with fail
      refine a0K 5 (by kernel_rfl) (by kernel_rfl) rfl ?_;simp only[qtc,a3E];repeat still_step
      refine AK ?_;go_wp2_with fail;refine(HT.out _ (Ab _ _).drew).mono ?_;rintro e w5 ⟨rfl,ab,aA⟩;rw[b4D] at ab;have ac:=(Chg.refl (fun i=>i=gh) wr).drew.trans aA (fun _ _ h=>h);have aB:=af.out _ ac;have aJ:=K.upto (ac.below K.2 (fun k _ e=>by rw[e];exact ai));have ak:blocks (q+1) s m=a9J (blocks q s m) (m.drop (64 * q)):=by rw[a5n,a7L]
      rw[<-ak] at ab;rw[CD] at aB;have aF:q+1<=Q:=M;clear ak HT af aA ac K N aM aC M hq;go_wp2_with fail;go_roundw;case rel=>exact ⟨q+1,o2,L - 64,C - 64,aF,rfl,qh (by have:=G.out;omega),aB,ab,aJ⟩
      case measure=>simp [a7u];omega
     ·obtain rfl:q=Q:=by omega
      have aH:L=0:=by have:=G.out;omega
      subst aH;go_wp2_with fail;go_meet;exact⟨rfl,N,K⟩
   case rest=>
    obtain⟨rfl,N,K⟩:=hcut;clear a6 Y P;have al:=S.out;generalize blocks Q s m=u at *;have g0:=SB.at00 N 0 u.a rfl;have g1:=SB.at00 N 1 u.b rfl;have g2:=SB.at00 N 2 u.c rfl;have g3:=SB.at00 N 3 u.d rfl;have g4:=SB.at00 N 4 u.e rfl;have g5:=SB.at00 N 5 u.f rfl;have g6:=SB.at00 N 6 u.g rfl;have g7:=SB.at00 N 7 u.h rfl;have ag:=SB.lt N;have S:=qh al;clear N al hS HS aa ax aE a5;have aN:∀W:World,(Instr.makeSlice 30 (.int .i64 0) (.int .i64 32)).run Tryz.prog W= .ok (.slice (some ⟨W.heap.size,0,none⟩) 0 32) (W.alloc (.cells (madeCells #[.int .u8 0] 32) TB)):=fun W=>by kernel_rfl
    have P:=K.alloc (.cells (madeCells #[.int .u8 0] 32) TB);have ah:Own (wc.alloc (.cells (madeCells #[.int .u8 0] 32) TB)) H (.slice (some ⟨wc.heap.size,0,none⟩) 0 32) []:=
     Own.of_row (xs:=[]) (Row.made wc _ 0 32 [] (by simp[madeCells]) rfl (by omega) (by simp[maxLen]) rfl) K.2
    go_upto_block 6 with fail
    clear aN g0 g1 g2 g3 g4 g5 g6 g7 ag K;generalize wc.alloc (.cells (madeCells #[.int .u8 0] 32) TB)=w6 at *;go_wp2_with fail;go_loopw [7,59] (fun v i wr=>∃k:Nat,k<=8/\i= .int .i64 k/\Ext H w wr/\Own wr H v (u.list.map a0B |>.take k).flatten) (fun _ i _=>8 - (intOf i).toNat);case atStart=>exact ⟨0,by omega,rfl,P,ah⟩
    case round=>
     obtain⟨k,hk,rfl,l,D⟩:=hrel;clear P ah;by_cases M:k<8
     ·rcases(show k=0∨k=1∨k=2∨k=3∨k=4∨k=5∨k=6∨k=7 by omega) with rfl | rfl | rfl | rfl | rfl | rfl | rfl | rfl
      ·have x0:∀w,(Instr.index 389 (.agg #[.int .u32 (wd u.a),.int .u32 (wd u.b),.int .u32 (wd u.c),.int .u32 (wd u.d),.int .u32 (wd u.e),.int .u32 (wd u.f),.int .u32 (wd u.g),.int .u32 (wd u.h)]) (.int .i64 0)).run Tryz.prog w= .ok (.int .u32 (wd u.a)) w:=fun _=>by kernel_rfl
       have y:((u.list.map a0B).take 0).flatten.length<=2000000:=by show 0<=2000000;omega
       have E:=l;have G:Hid (((u.list.map a0B).take 0).flatten ++a0B u.a=((u.list.map a0B).take 1).flatten):=qh rfl;generalize((u.list.map a0B).take 0).flatten=L at *;go_wp2_with (at_builtin;refine a1M l D _ _ _ _ u.a rfl rfl rfl rfl y rfl _ _ rfl rfl rfl ?_);intro v7 w7 F z _;rw[G.out] at z;clear l E D x0;go_wp2_with fail;go_roundw;case rel=>exact ⟨1,by omega,rfl,F,z⟩
       case measure=>simp [intOf]
      ·have x1:∀w,(Instr.index 389 (.agg #[.int .u32 (wd u.a),.int .u32 (wd u.b),.int .u32 (wd u.c),.int .u32 (wd u.d),.int .u32 (wd u.e),.int .u32 (wd u.f),.int .u32 (wd u.g),.int .u32 (wd u.h)]) (.int .i64 1)).run Tryz.prog w= .ok (.int .u32 (wd u.b)) w:=fun _=>by kernel_rfl
       have y:((u.list.map a0B).take 1).flatten.length<=2000000:=by show 4<=2000000;omega
       have E:=l;have G:Hid (((u.list.map a0B).take 1).flatten ++a0B u.b=((u.list.map a0B).take 2).flatten):=qh rfl;generalize((u.list.map a0B).take 1).flatten=L at *;go_wp2_with (at_builtin;refine a1M l D _ _ _ _ u.b rfl rfl rfl rfl y rfl _ _ rfl rfl rfl ?_);intro v7 w7 F z _;rw[G.out] at z;clear l E D x1;go_wp2_with fail;go_roundw;case rel=>exact ⟨2,by omega,rfl,F,z⟩
       case measure=>simp [intOf]
      ·have x2:∀w,(Instr.index 389 (.agg #[.int .u32 (wd u.a),.int .u32 (wd u.b),.int .u32 (wd u.c),.int .u32 (wd u.d),.int .u32 (wd u.e),.int .u32 (wd u.f),.int .u32 (wd u.g),.int .u32 (wd u.h)]) (.int .i64 2)).run Tryz.prog w= .ok (.int .u32 (wd u.c)) w:=fun _=>by kernel_rfl
       have y:((u.list.map a0B).take 2).flatten.length<=2000000:=by show 8<=2000000;omega
       have E:=l;have G:Hid (((u.list.map a0B).take 2).flatten ++a0B u.c=((u.list.map a0B).take 3).flatten):=qh rfl;generalize((u.list.map a0B).take 2).flatten=L at *;go_wp2_with (at_builtin;refine a1M l D _ _ _ _ u.c rfl rfl rfl rfl y rfl _ _ rfl rfl rfl ?_);intro v7 w7 F z _;rw[G.out] at z;clear l E D x2;go_wp2_with fail;go_roundw;case rel=>exact ⟨3,by omega,rfl,F,z⟩
       case measure=>simp [intOf]
      ·have x3:∀w,(Instr.index 389 (.agg #[.int .u32 (wd u.a),.int .u32 (wd u.b),.int .u32 (wd u.c),.int .u32 (wd u.d),.int .u32 (wd u.e),.int .u32 (wd u.f),.int .u32 (wd u.g),.int .u32 (wd u.h)]) (.int .i64 3)).run Tryz.prog w= .ok (.int .u32 (wd u.d)) w:=fun _=>by kernel_rfl
       have y:((u.list.map a0B).take 3).flatten.length<=2000000:=by show 12<=2000000;omega
       have E:=l;have G:Hid (((u.list.map a0B).take 3).flatten ++a0B u.d=((u.list.map a0B).take 4).flatten):=qh rfl;generalize((u.list.map a0B).take 3).flatten=L at *;go_wp2_with (at_builtin;refine a1M l D _ _ _ _ u.d rfl rfl rfl rfl y rfl _ _ rfl rfl rfl ?_);intro v7 w7 F z _;rw[G.out] at z;clear l E D x3;go_wp2_with fail;go_roundw;case rel=>exact ⟨4,by omega,rfl,F,z⟩
       case measure=>simp [intOf]
      ·have x4:∀w,(Instr.index 389 (.agg #[.int .u32 (wd u.a),.int .u32 (wd u.b),.int .u32 (wd u.c),.int .u32 (wd u.d),.int .u32 (wd u.e),.int .u32 (wd u.f),.int .u32 (wd u.g),.int .u32 (wd u.h)]) (.int .i64 4)).run Tryz.prog w= .ok (.int .u32 (wd u.e)) w:=fun _=>by kernel_rfl
       have y:((u.list.map a0B).take 4).flatten.length<=2000000:=by show 16<=2000000;omega
       have E:=l;have G:Hid (((u.list.map a0B).take 4).flatten ++a0B u.e=((u.list.map a0B).take 5).flatten):=qh rfl;generalize((u.list.map a0B).take 4).flatten=L at *;go_wp2_with (at_builtin;refine a1M l D _ _ _ _ u.e rfl rfl rfl rfl y rfl _ _ rfl rfl rfl ?_);intro v7 w7 F z _;rw[G.out] at z;clear l E D x4;go_wp2_with fail;go_roundw;case rel=>exact ⟨5,by omega,rfl,F,z⟩
       case measure=>simp [intOf]
      ·have x5:∀w,(Instr.index 389 (.agg #[.int .u32 (wd u.a),.int .u32 (wd u.b),.int .u32 (wd u.c),.int .u32 (wd u.d),.int .u32 (wd u.e),.int .u32 (wd u.f),.int .u32 (wd u.g),.int .u32 (wd u.h)]) (.int .i64 5)).run Tryz.prog w= .ok (.int .u32 (wd u.f)) w:=fun _=>by kernel_rfl
       have y:((u.list.map a0B).take 5).flatten.length<=2000000:=by show 20<=2000000;omega
       have E:=l;have G:Hid (((u.list.map a0B).take 5).flatten ++a0B u.f=((u.list.map a0B).take 6).flatten):=qh rfl;generalize((u.list.map a0B).take 5).flatten=L at *;go_wp2_with (at_builtin;refine a1M l D _ _ _ _ u.f rfl rfl rfl rfl y rfl _ _ rfl rfl rfl ?_);intro v7 w7 F z _;rw[G.out] at z;clear l E D x5;go_wp2_with fail;go_roundw;case rel=>exact ⟨6,by omega,rfl,F,z⟩
       case measure=>simp [intOf]
      ·have x6:∀w,(Instr.index 389 (.agg #[.int .u32 (wd u.a),.int .u32 (wd u.b),.int .u32 (wd u.c),.int .u32 (wd u.d),.int .u32 (wd u.e),.int .u32 (wd u.f),.int .u32 (wd u.g),.int .u32 (wd u.h)]) (.int .i64 6)).run Tryz.prog w= .ok (.int .u32 (wd u.g)) w:=fun _=>by kernel_rfl
       have y:((u.list.map a0B).take 6).flatten.length<=2000000:=by show 24<=2000000;omega
       have E:=l;have G:Hid (((u.list.map a0B).take 6).flatten ++a0B u.g=((u.list.map a0B).take 7).flatten):=qh rfl;generalize((u.list.map a0B).take 6).flatten=L at *;go_wp2_with (at_builtin;refine a1M l D _ _ _ _ u.g rfl rfl rfl rfl y rfl _ _ rfl rfl rfl ?_);intro v7 w7 F z _;rw[G.out] at z;clear l E D x6;go_wp2_with fail;go_roundw;case rel=>exact ⟨7,by omega,rfl,F,z⟩
       case measure=>simp [intOf]
      ·have x7:∀w,(Instr.index 389 (.agg #[.int .u32 (wd u.a),.int .u32 (wd u.b),.int .u32 (wd u.c),.int .u32 (wd u.d),.int .u32 (wd u.e),.int .u32 (wd u.f),.int .u32 (wd u.g),.int .u32 (wd u.h)]) (.int .i64 7)).run Tryz.prog w= .ok (.int .u32 (wd u.h)) w:=fun _=>by kernel_rfl
       have y:((u.list.map a0B).take 7).flatten.length<=2000000:=by show 28<=2000000;omega
       have E:=l;have G:Hid (((u.list.map a0B).take 7).flatten ++a0B u.h=((u.list.map a0B).take 8).flatten):=qh rfl;generalize((u.list.map a0B).take 7).flatten=L at *;go_wp2_with (at_builtin;refine a1M l D _ _ _ _ u.h rfl rfl rfl rfl y rfl _ _ rfl rfl rfl ?_);intro v7 w7 F z _;rw[G.out] at z;clear l E D x7;go_wp2_with fail;go_roundw;case rel=>exact ⟨8,by omega,rfl,F,z⟩
       case measure=>simp [intOf]
     ·obtain rfl:k=8:=by omega
      rw[show((u.list.map a0B).take 8).flatten=u.bytes from rfl,<-S.out] at D;go_wp2_with fail;go_ret;exact⟨_,rfl,D,l.1⟩
theorem Own.weaken{w:World}{B B':Nat}{v:Value}{xs:List UInt8}(h:Own w B' v xs)(b:B<=B'):Own w B v xs:=by
 rcases h.parts with⟨rfl,rfl⟩ | ⟨g,cap,rfl,a,h3⟩
 ·exact Own.nil _ _
 ·exact Own.of_row h3 (Ad b a)
structure Pc where
 a:Option Addr
 m:Nat
 c:Nat
 ys:List UInt8
def a6N(ps:List Pc):List UInt8:=(ps.map (·.ys)).flatten
theorem a81(ps:List Pc)(k:Nat)(h:k<ps.length):a6N (ps.take (k+1))=a6N (ps.take k) ++ps[k].ys:=by
 unfold a6N;rw[Ar h,AZ,AT];congr 1;simp
theorem b7t(ps:List Pc)(k:Nat):(a6N (ps.take k)).length<=(a6N ps).length:=by
 conv=>rhs;rw[<-List.take_append_drop k ps]
 unfold a6N;rw[AZ,AT,Af];omega
theorem a58(G n cap:Nat)(ps:List Pc)(w:World)(T:ps.length=n)(Z:n<=100)(D:G<w.heap.size)
  (I:∀i (h:i<ps.length),w.cell? ⟨G,i,none⟩=some (.slice ps[i].a ps[i].m ps[i].c)) (U:∀i (h:i<ps.length),Bs w ps[i].a ps[i].m ps[i].c ps[i].ys) (W:(a6N ps).length<=1000000000):
  Calls Tryz.prog 205 #[.slice (some ⟨G,0,none⟩) n cap] w fun e w'=>∃v,e= .returned v/\Own w' w.heap.size v (sha (a6N ps))/\Below w.heap.size w w':=by
 obtain⟨H,K⟩:=qnm w.heap.size;rw[<-K] at D⊢;have F:=qh K;have Y:=qh I;have HB:=qh U;have V:=qh T;clear I U T K;go_enter Tryz.func205,Tryz.ntmps205;go_wp2_with fail;refine(b1I w).mono ?_;rintro e w1 ⟨p,rfl,r,hb1⟩;rw[<-F.out] at r;have t:Ext H w w1:=by rw[F.out];exact(Ext.refl w).step hb1
 clear hb1;go_upto_block 0 with fail
 go_cut [3] (fun s wr=>s= .pointer (some ⟨p,0,none⟩)/\Ext H w wr/\∃g,Strm wr H p g (a6N ps));case first=>
  go_wp2_with fail;go_loopw [9] (fun i wr=>∃k:Nat,k<=n/\i= .int .i64 k/\Ext H w wr/\∃g,Strm wr H p g (a6N (ps.take k))) (fun i _=>n - (intOf i).toNat);case atStart=>exact ⟨0,by omega,rfl,t,none,r⟩
  case round=>
   obtain⟨k,hk,rfl,j,g,f⟩:=hrel;clear r t;by_cases M:k<n
   ·have d:k<ps.length:=by rw[V.out];exact M
    have R:=(j.1.cell (p:=⟨G,k,none⟩) D).trans (Y.out k d);have u:=(HB.out k d).below (by rw[<-F.out];exact j.1);have x:=b7t ps (k+1);rw[a81 ps k d] at x;have z:=a81 ps k d;have E:0<ps[k].m->∀ad,ps[k].a=some ad->¬SS p g ad.block:=by
     intro h0 ad l C;have hb0:=HB.out k d;rcases hb0.2.2.2 with h | ⟨b,o,e,h5,_⟩
     ·omega
     ·rw[e] at l;injection l with l;subst l
      rcases C with C | C
      ·have:=f.1;have:=F.out;simp at C;omega
      ·subst C;have h9:H<=b:=f.row_lt.2;have:=F.out;omega
    have L:=qh (a8M H p g (a6N (ps.take k)) ps[k].a ps[k].m ps[k].c ps[k].ys wr f u E (by rw[Af] at x;have:=u.1;omega));rw[<-z] at L;have A:=fun w' (I:Chg (SS p g) wr w')=>j.upto (f.belowOf I)
    have B:=qh A;clear x z E u f A j;generalize ps[k]=q at *;have e1:(0:Int)<=(k:Int):=by omega
    have e2:(k:Int)<(n:Int):=by omega
    go_wp2_with fail;refine L.out.mono ?_;rintro e w2 ⟨rfl,g2,O,y,_⟩;have J:=B.out _ y;clear L B y R;go_wp2_with fail;go_roundw;case rel=>exact ⟨k+1,by omega,by go_num,J,g2,O⟩
    case measure=>simp [intOf];omega
   ·obtain rfl:k=n:=by omega
    have P:ps.take k=ps:=Am (by rw[V.out];omega);rw[P] at f;go_wp2_with fail;go_meet;exact⟨rfl,j,g,f⟩
 case rest=>
  obtain⟨rfl,j,g,f⟩:=hcut;clear r t;go_wp2_with fail;refine(b3e H p g (a6N ps) _ f W).mono ?_;rintro e w3 ⟨v,rfl,S,X⟩;have Q:=j.step X;have N:=S.weaken j.2;clear S j f;go_wp2_with fail;go_ret;exact⟨_,rfl,N,Q.1⟩
theorem a2I(a:Option Addr)(b cap:Nat)(xs:List UInt8)(w:World)(h:Bs w a b cap xs)(l:b<=1000000000):
  Calls Tryz.prog 123 #[.slice a b cap] w fun e w'=>∃v,e= .returned v/\Own w' w.heap.size v (sha xs)/\Below w.heap.size w w':=by
 have c:=a58 w.heap.size 1 1 [⟨a,b,cap,xs⟩] (w.alloc (.cells #[.slice a b cap] 30)) rfl (by omega) (b8G w _)
  (fun i d=>by match i,d with | 0,_=>rw [Az];rfl)
  (fun i d=>by match i,d with | 0,_=>exact h.alloc _) (by show(a6N [⟨a,b,cap,xs⟩]).length<=_;simp[a6N];have:=h.1;omega)
 rw[show a6N [⟨a,b,cap,xs⟩]=xs by simp[a6N]] at c;have g:=qh c;clear c;go_enter Tryz.func123,Tryz.ntmps123;go_wp2_with fail;refine g.out.mono ?_;rintro e m ⟨v,rfl,f,k⟩;have j:=((Ext.refl w).alloc (.cells #[.slice a b cap] 30)).step k;go_wp2_with fail;go_ret;exact⟨_,rfl,f.weaken (by simp),j.1⟩
theorem a9U(a:Option Addr)(b cap:Nat)(xs:List UInt8)(w:World)(h:Bs w a b cap xs)(m:b<=900000):
  Calls Tryz.prog 245 #[.slice a b cap] w fun e w'=>∃v,e= .returned v/\Own w' w.heap.size v (sha (0 :: xs))/\Below w.heap.size w w':=by
 have c:=Bs.one w 0;rw[show(((0:UInt8).toNat:Nat):Int)=0 from rfl] at c;have d:=a58 (w.heap.size+1) 2 2 [⟨some ⟨w.heap.size,0,none⟩,1,1,[0]⟩,⟨a,b,cap,xs⟩] ((w.alloc (.cells #[.int .u8 0] TB)).alloc (.cells #[.slice (some ⟨w.heap.size,0,none⟩) 1 1,.slice a b cap] 30)) rfl (by omega) (by simp)
  (fun i f=>by
   have e:w.heap.size+1=(w.alloc (.cells #[.int .u8 0] TB)).heap.size:=by simp
   rw[e]
   match i,f with
   | 0,_=>rw [Az];rfl
   | 1,_=>rw [Az];rfl)
  (fun i f=>by
   match i,f with
   | 0,_=>exact c.alloc _
   | 1,_=>exact (h.alloc _).alloc _) (by simp[a6N];have:=h.1;omega)
 rw[show a6N [⟨some ⟨w.heap.size,0,none⟩,1,1,[0]⟩,⟨a,b,cap,xs⟩]=0 :: xs by simp[a6N]] at d;have j:=qh d;clear d c;go_enter Tryz.func245,Tryz.ntmps245;go_wp2_with fail;refine j.out.mono ?_;rintro e n ⟨v,rfl,g,l⟩;have k:=(((Ext.refl w).alloc (.cells #[.int .u8 0] TB)).alloc (.cells #[.slice (some ⟨w.heap.size,0,none⟩) 1 1,.slice a b cap] 30)).step l;go_wp2_with fail;go_ret;exact⟨_,rfl,g.weaken (by simp;omega),k.1⟩
theorem a9T(a f:Option Addr)(d cap b c:Nat)(xs ys:List UInt8)(w:World)(h:Bs w a d cap xs)(l:Bs w f b c ys)(q:d+b<=900000):
  Calls Tryz.prog 247 #[.slice a d cap,.slice f b c] w fun e w'=>∃v,e= .returned v/\Own w' w.heap.size v (sha (1 :: (xs ++ys)))/\Below w.heap.size w w':=by
 have g:=Bs.one w 1;rw[show(((1:UInt8).toNat:Nat):Int)=1 from rfl] at g;have j:=a58 (w.heap.size+1) 3 3 [⟨some ⟨w.heap.size,0,none⟩,1,1,[1]⟩,⟨a,d,cap,xs⟩,⟨f,b,c,ys⟩] ((w.alloc (.cells #[.int .u8 1] TB)).alloc (.cells #[.slice (some ⟨w.heap.size,0,none⟩) 1 1,.slice a d cap,.slice f b c] 30)) rfl (by omega) (by simp)
  (fun i k=>by
   have e:w.heap.size+1=(w.alloc (.cells #[.int .u8 1] TB)).heap.size:=by simp
   rw[e]
   match i,k with
   | 0,_=>rw [Az];rfl
   | 1,_=>rw [Az];rfl
   | 2,_=>rw [Az];rfl)
  (fun i k=>by
   match i,k with
   | 0,_=>exact g.alloc _
   | 1,_=>exact (h.alloc _).alloc _
   | 2,_=>exact (l.alloc _).alloc _) (by simp[a6N];have:=h.1;have:=l.1;omega)
 rw[show a6N [⟨some ⟨w.heap.size,0,none⟩,1,1,[1]⟩,⟨a,d,cap,xs⟩,⟨f,b,c,ys⟩]=1 :: (xs ++ys) by simp[a6N]] at j;have n:=qh j;clear j g;go_enter Tryz.func247,Tryz.ntmps247;go_wp2_with fail;refine n.out.mono ?_;rintro e r ⟨v,rfl,m,p⟩;have o:=(((Ext.refl w).alloc (.cells #[.int .u8 1] TB)).alloc (.cells #[.slice (some ⟨w.heap.size,0,none⟩) 1 1,.slice a d cap,.slice f b c] 30)).step p;go_wp2_with fail;go_ret;exact⟨_,rfl,m.weaken (by simp;omega),o.1⟩
theorem a8E(a:Option Addr)(cap:Nat)(w:World):
  Calls Tryz.prog 299 #[.slice a 32 cap] w fun e w'=>e= .returned (.slice a 32 cap)/\w=w':=by
 go_enter Tryz.func299,Tryz.ntmps299;go_wp2;go_ret;exact⟨rfl,rfl⟩
def a9j(i f c:Nat)(P R:List UInt8):List UInt8:=be 2 1 ++(be i 2 ++(be f 8 ++(be c 2 ++(P ++R))))
def a1f(i f c:Nat)(n:Int)(d:Option Addr)(e:Nat)(b:Option Addr)(a:Nat):Array Value:=#[.int .i64 (i:Int),.int .u64 (f:Int),.int .i64 (c:Int),.int .i64 n,.slice d 32 e,.slice b 32 a]
theorem b1K(i f c:Nat)(n:Int)(r u:Option Addr)(s t:Nat)(P R:List UInt8)(w:World)(hi:i<=65535)(hc:c<=65535)(M:Bs w r 32 s P)(I:Bs w u 32 t R):
  Calls Tryz.prog 249 #[.agg (a1f i f c n r s u t)] w fun e w'=>∃v,e= .returned v/\Own w' w.heap.size v (a9j i f c P R)/\Below w.heap.size w w':=by
 have z:=M.1;have K:=I.1;have S:=qh M;have Q:=qh I;clear M I;unfold a1f;obtain⟨w0,b⟩:=qnm (w.alloc (.cells #[.int .i64 (i:Int),.int .u64 (f:Int),.int .i64 (c:Int),.int .i64 n,.slice r 32 s,.slice u 32 t] 175));have D:=qba b;have k:Ext w.heap.size w w0:=(Ext.refl w).step D;have a:w.heap.size<w0.heap.size:=by rw[b];simp
 have hk:∀j,w0.cell? ⟨w.heap.size,j,none⟩=(#[.int .i64 (i:Int),.int .u64 (f:Int),.int .i64 (c:Int),.int .i64 n,.slice r 32 s,.slice u 32 t]:Array Value)[j]?:=fun j=>by rw[b];exact a07 _ _ _ _
 have T:w0.cell? ⟨w.heap.size,0,none⟩=some (.int .i64 (i:Int)):=hk 0;have V:w0.cell? ⟨w.heap.size,1,none⟩=some (.int .u64 (f:Int)):=hk 1;have X:w0.cell? ⟨w.heap.size,2,none⟩=some (.int .i64 (c:Int)):=hk 2;have U:w0.cell? ⟨w.heap.size,4,none⟩=some (.slice r 32 s):=hk 4;have W:w0.cell? ⟨w.heap.size,5,none⟩=some (.slice u 32 t):=hk 5;have J:=qh (S.out.below D);have E:=qh (Q.out.below D);have y:=qh b;clear hk D b S Q;go_enter Tryz.func249,Tryz.ntmps249;go_upto_region 1 with fail
 rw[<-y.out];obtain⟨H,F⟩:=qnm w.heap.size;rw[<-F] at k a T V X U W⊢;have HH:=qh F;clear F y;go_wp2_with fail;refine(a2k _).mono ?_;rintro e w2 ⟨rfl,x,hb1⟩;have m:WI w0 w0.heap.size w0.heap.size w2 []:=⟨(Ext.refl w0).step hb1,none,x⟩
 have C:=qh (show ∃q,q=w0.heap.size from⟨_,rfl⟩);obtain⟨q,O⟩:=C.out;have C:=qh O;rw[<-O] at m a⊢;clear x hb1 O;go_wp2_with fail;refine(a4v 2 m (by omega) (by unfold big;decide)).mono ?_;rintro e w3 ⟨rfl,p⟩;have d0:=p.cell a T;clear m;go_wp2_with fail;refine(a0H i p (by omega) (by simp[a0d];unfold big;decide)).mono ?_;rintro e w4 ⟨rfl,o⟩;have d1:=o.cell a V;clear d0 p;go_wp2_with fail;refine(a18 f o (by simp[a0d];unfold big;decide)).mono ?_;rintro e w5 ⟨rfl,l⟩;have Z:=l.cell a X;clear d1 o;go_wp2_with fail;refine(a0H c l (by omega) (by simp[a0d];unfold big;decide)).mono ?_;rintro e w6 ⟨rfl,d⟩;have d4:=d.cell a U;clear Z l;go_wp2_with fail;refine(a8E r s _).mono ?_;rintro e w7 ⟨rfl,rfl⟩;go_wp2_with fail;refine(a1E d (d.1.bs C.out.symm J.out) (by simp[a0d];unfold big;decide)).mono ?_;rintro e w8 ⟨rfl,h⟩;have d5:=h.cell a W;clear d4 d;go_wp2_with fail;refine(a8E u t _).mono ?_;rintro e w9 ⟨rfl,rfl⟩;go_wp2_with fail;refine(a1E h (h.1.bs C.out.symm E.out) (by simp[a0d,z];unfold big;decide)).mono ?_;rintro e Y ⟨rfl,A⟩;clear d5 h;obtain⟨B,g,N⟩:=A;go_wp2_with fail;refine(a4u q q g _ _ N (by simp[a0d,z,K];unfold big;decide)).mono ?_;rintro e a0 ⟨v,rfl,ho,L⟩;go_wp2_with fail;go_ret;have G:=(k.to (B.1.mono (Bt a))).step L;rw[<-HH.out];exact⟨v,rfl,(by simpa[a9j] using ho.weaken (k.to (B.1.mono (Bt a))).2),G.1⟩
theorem a9i(i f c:Nat)(P R:List UInt8)(b:P.length=32)(a:R.length=32):(a9j i f c P R).length=77:=by simp[a9j,a0d,b,a]
theorem a9W(i f c:Nat)(n:Int)(b h:Option Addr)(d g:Nat)(P R:List UInt8)(w:World)(x:i<=65535)(A:c<=65535)(o:Bs w b 32 d P)(m:Bs w h 32 g R):
  Calls Tryz.prog 183 #[.agg (a1f i f c n b d h g)] w fun e w'=>∃v,e= .returned v/\Own w' w.heap.size v (sha (a9j i f c P R))/\Below w.heap.size w w':=by
 have r:=a9i i f c P R o.1 m.1;have t:=qh (fun w' (s:Below w.heap.size w w')=>b1K i f c n b h d g P R w' x A (o.below s) (m.below s));have p:=qh r;have l:=(Ext.refl w).alloc (.cells #[.int .i64 (i:Int),.int .u64 (f:Int),.int .i64 (c:Int),.int .i64 n,.slice b 32 d,.slice h 32 g] 175);unfold a1f at *;clear o m r;go_enter Tryz.func183,Tryz.ntmps183;go_wp2_with fail;refine(t.out _ l.1).mono ?_;rintro e C ⟨v,rfl,u,hb1⟩;obtain⟨z,y,rfl,q⟩:=u.bsn p.out;have a:=l.step hb1;clear u hb1 l t;go_wp2_with fail;refine(a2I z 77 y _ _ q (by omega)).mono ?_;rintro e w2 ⟨B,rfl,k,hb2⟩;have j:=a.step hb2;go_wp2_with fail;go_ret;exact⟨_,rfl,k.weaken a.2,j.1⟩
end
end Go.Proofs.YtbemfdcjieakdaaGreatDoor
