/- RecordEnc; RecordNo; RecordDec; RecordDecRest; RecordLaw; Disk. -/
import Derived.Deep.Cut
import Derived.Test.YtbemfdcjieakdaaGreatDoorK09
set_option maxRecDepth 100000
set_option maxHeartbeats 8000000
namespace Go.Proofs.YtbemfdcjieakdaaGreatDoor
section
open Go.RowKit
def a0M(a seq:Nat)(body:List UInt8):List UInt8:=be a 1 ++(be seq 8 ++a0j body)
def a1i(a seq:Nat)(body:List UInt8):List UInt8:=a0M a seq body ++be (crcMore 0 (a0M a seq body)) 4
theorem b3t(b seq:Nat)(a:Option Addr)(c cap:Nat)(ys:List UInt8)(w:World)(h:Bs w a c cap ys)(f:a1Z (b:Int) seq c):
  Calls Tryz.prog 244 #[.agg #[.int .i64 (b:Int),.int .u64 (seq:Int),.slice a c cap]] w fun e w'=>∃v,e= .returned (.tuple #[v,.int .i64 0])/\Own w' w.heap.size v (a1i b seq ys)/\Below w.heap.size w w':=by
 have K:c<=900:=f.2.1;have hk:b<=2:=by have:=f.2.2;omega
 have B:=qh (a15 (b:Int) seq a c cap (w.alloc (.cells #[.int .i64 (b:Int),.int .u64 (seq:Int),.slice a c cap] 89)));rw[AB f] at B;clear f;go_enter Tryz.func244,Tryz.ntmps244;go_wp2_with fail;refine B.out.mono ?_;rintro e w1 ⟨rfl,l⟩;have d:=((Ext.refl w).alloc (.cells #[.int .i64 (b:Int),.int .u64 (seq:Int),.slice a c cap] 89)).step l;have g:w.heap.size<w1.heap.size:=Ai (a0S _ _) l.size;have J:w1.cell? ⟨w.heap.size,0,none⟩=some (.int .i64 (b:Int)):=a0l l 0;have P:w1.cell? ⟨w.heap.size,1,none⟩=some (.int .u64 (seq:Int)):=a0l l 1;have S:w1.cell? ⟨w.heap.size,2,none⟩=some (.slice a c cap):=a0l l 2;have z:=(h.alloc (.cells #[.int .i64 (b:Int),.int .u64 (seq:Int),.slice a c cap] 89)).below l;clear l h B;go_wp2_with fail;refine(a2k w1).mono ?_;rintro e w2 ⟨rfl,m,hb2⟩;obtain⟨p,A⟩:=qnm w1.heap.size;rw[<-A] at m g⊢;have D:=qh A;have r:WI w1 p p w2 []:=⟨by rw[A];exact(Ext.refl w1).step hb2,none,m⟩
 clear m hb2 A;have T:=r.cell g J;go_wp2_with fail;refine(a4v b r (by omega) (by unfold big;decide)).mono ?_;rintro e w3 ⟨rfl,q⟩;have Q:=q.cell g P;clear T r;go_wp2_with fail;refine(a18 seq q (by simp[a0d];unfold big;decide)).mono ?_;rintro e w4 ⟨rfl,o⟩;have N:=o.cell g S;clear Q q;go_wp2_with fail;refine(a5X o D.out.symm z (by simp[a0d];unfold big;decide)).mono ?_;rintro e w5 ⟨rfl,j⟩;have G:[] ++be b 1 ++be seq 8 ++a0j ys=a0M b seq ys:=by simp[a0M]
 rw[G] at j;clear N o G;have O:(a0M b seq ys).length<=2000:=by
  have:=z.1;simp only[a0M,Af,a0d,a0j,Av];omega
 have H:=qh (show a1i b seq ys=a0M b seq ys ++be (crcMore 0 (a0M b seq ys)) 4 from rfl);generalize a0M b seq ys=X at *;go_wp2_with fail;refine(a10 j (by unfold big;omega)).mono ?_;rintro e w6 ⟨a6,c6,rfl,_,t,s⟩;clear j;go_wp2_with fail;refine(a7f _ _ _ _ _ t).mono ?_;rintro e V ⟨W,rfl,y,hb7⟩;obtain⟨a7,c7,rfl,x⟩:=y.bsn (n:=4) (a0d _ _);have u:=s.below hb7;clear s t y;go_wp2_with fail;refine(a1E u x (by unfold big;omega)).mono ?_;rintro e w8 ⟨rfl,i⟩;rw[<-H.out] at i;have E:(a1i b seq ys).length<=3000:=by rw[H.out,Af,a0d];omega
 obtain⟨Z,k⟩:=qnm (a1i b seq ys);rw[<-k] at i E;have M:=qh k;clear k x u;go_wp2_with fail;refine(a10 i (by unfold big;omega)).mono ?_;rintro e Y ⟨I,R,rfl,U,L,F⟩;go_wp2_with fail;go_ret2;have C:=d.to (F.1.1.mono (by rw[D.out];exact d.2));exact⟨.slice I Z.length R,rfl,by rw[<-M.out];exact U.base (d.to (i.1.1.mono (by rw[D.out];exact d.2))).2,C.1⟩
theorem a95(b:Int)(seq:Nat)(a:Option Addr)(c cap:Nat)(w:World):
  Calls Tryz.prog 176 #[.agg #[.int .i64 b,.int .u64 (seq:Int),.slice a c cap]] w fun e w'=>e= .returned (.int .i64 (if a1Z b seq c then 15+(c:Int) else 0))/\Below w.heap.size w w':=by
 have f:=qh (a15 b seq a c cap (w.alloc (.cells #[.int .i64 b,.int .u64 (seq:Int),.slice a c cap] 89)));by_cases d:a1Z b seq c
 ·rw[AB d] at f;rw[Ah d];have j:=d.2.1;clear d;go_enter Tryz.func176,Tryz.ntmps176;go_wp2_with fail;refine f.out.mono ?_;rintro e h ⟨rfl,g⟩;have k:h.cell? ⟨w.heap.size,2,none⟩=some (.slice a c cap):=a0l g 2;have i:=((Ext.refl w).alloc (.cells #[.int .i64 b,.int .u64 (seq:Int),.slice a c cap] 89)).step g;go_wp2_with fail;go_ret;exact⟨a0F (by omega),i.1⟩
 ·rw[Aq d] at f;rw[Ag d];clear d;go_enter Tryz.func176,Tryz.ntmps176;go_wp2_with fail;refine f.out.mono ?_;rintro e h ⟨rfl,g⟩;go_wp2_with fail;go_ret;exact⟨rfl,(((Ext.refl w).alloc _).step g).1⟩
def rdK(xs:List UInt8):Nat×(List UInt8×Nat):=a1l (xs,0)
def rdQ(xs:List UInt8):Nat×(List UInt8×Nat):=a2n (rdK xs).2
def rdB(xs:List UInt8):List UInt8×(List UInt8×Nat):=a5c (rdQ xs).2
def rdE(xs:List UInt8):Nat:=xs.length - rdLeft (rdB xs).2
def rdW(xs:List UInt8):List UInt8:=(a08 (rdB xs).2 4).1
def a4q:List UInt8->Bool
 | []=>false
 | x :: _=>x != 1 && x != 2
def a4F(xs:List UInt8):Nat:=
 if a4q xs=true then 12
 else if(rdW xs).length<4 then 10
 else if rdW xs≠be (crcMore 0 (xs.take (rdE xs))) 4 then 14
 else if ¬a1Z ((rdK xs).1:Nat) (rdQ xs).1 (rdB xs).1.length then 12 else 0
def b0Z(k:Int)(q:Nat)(v:Value)(n e:Int):Value:=.tuple #[.agg #[.int .i64 k,.int .u64 (q:Int),v],.int .i64 n,.int .i64 e]
theorem a98(a:Option Addr)(d cap:Nat)(xs:List UInt8)(w:World)(h:Bs w a d cap xs)(f:a4q xs=true):
  Calls Tryz.prog 248 #[.slice a d cap] w fun e w'=>e= .returned (b0Z 0 0 (.slice none 0 0) 0 12)/\Below w.heap.size w w':=by
 match xs,f with
 | x :: ys,f=>
  have c:=h.1;simp only[AA] at c;simp only[a4q,Ca,BG] at f;obtain⟨b,off,rfl,g,m⟩:∃b off,a=some ⟨b,off,none⟩/\b<w.heap.size/\w.cell? ⟨b,off,none⟩=some (.int .u8 (x.toNat:Int)):=by
   rcases h.2.2.2 with h | ⟨b,off,j,k,h3⟩
   ·omega
   ·exact⟨b,off,j,k,by have:=h3 0 (by simp);rw[BT] at this;exact this⟩
  have n:((x.toNat:Int) != 1)=true:=by
   rw[BG];intro h;exact f.1 (Cj.1 (by rw[show(1:UInt8).toNat=1 from rfl];omega))
  have l:((x.toNat:Int) != 2)=true:=by
   rw[BG];intro h;exact f.2 (Cj.1 (by rw[show(2:UInt8).toNat=2 from rfl];omega))
  have i:(0:Int)<(d:Int):=by omega
  clear h f c;go_enter Tryz.func248,Tryz.ntmps248;go_wp2_with fail;refine Aj (v:=b0Z 0 0 (.slice none 0 0) 0 12) (by simp[results,Tryz.results248,go_sem,b0Z]) rfl ⟨rfl,?_⟩;exact((Ext.refl w).alloc _).1
theorem strOf_ne(xs ys:List UInt8):(!(a0c xs).toList == (a0c ys).toList)=decide (xs≠ys):=by
 rw[a0X,a0X,Bl];simp
def b42(xs:List UInt8)(B:Nat)(e:Ending)(w':World):Prop:=
 (a4F xs=0/\∃v,e= .returned (b0Z ((rdK xs).1:Nat) (rdQ xs).1 v ((rdE xs:Int)+4) 0)/\Own w' B v (rdB xs).1)∨
 (a4F xs≠0/\e= .returned (b0Z 0 0 (.slice none 0 0) 0 (a4F xs)))
theorem a8Y(a:Option Addr)(len cap:Nat)(xs:List UInt8)(w:World)(h:Bs w a len cap xs)(hl:len<=big)(U:a4q xs=false):
  Calls Tryz.prog 248 #[.slice a len cap] w fun e w'=>b42 xs w.heap.size e w'/\Below w.heap.size w w':=by
 have o:=h.1;obtain⟨H,hH⟩:=qnm w.heap.size;have m:=a0S w (.cells #[.int .i64 0,.int .u64 0,.slice none 0 0] 89);have an:=(Ext.refl w).alloc (.cells #[.int .i64 0,.int .u64 0,.slice none 0 0] 89);have h':=h.alloc (.cells #[.int .i64 0,.int .u64 0,.slice none 0 0] 89);have T:=a07 w #[.int .i64 0,.int .u64 0,.slice none 0 0] 89 0;have Y:=a07 w #[.int .i64 0,.int .u64 0,.slice none 0 0] 89 1;have C2:=a07 w #[.int .i64 0,.int .u64 0,.slice none 0 0] 89 2;have F0:=a4b w #[.int .i64 0,.int .u64 0,.slice none 0 0] 89 0;have F1:=a4b w #[.int .i64 0,.int .u64 0,.slice none 0 0] 89 1;have F2:=a4b w #[.int .i64 0,.int .u64 0,.slice none 0 0] 89 2;simp only[qge] at T Y C2;rw[<-hH] at an m T Y C2 F0 F1 F2⊢;have HC:=qh (aI T (aI Y C2));have HF:=qh (aI F0 (aI F1 F2));have HH:=qh hH;clear T Y C2 F0 F1 F2 hH;go_enter Tryz.func248,Tryz.ntmps248;go_upto_region 1 with fail
 rw[<-HH.out];generalize w.alloc (.cells #[.int .i64 0,.int .u64 0,.slice none 0 0] 89)=r at *;go_cut [23] (fun s wx=>s= .bool false/\r=wx);case first=>
  match xs,U with
  | [],_=>
   simp only[Ay] at o;subst o;go_wp2_with fail;go_meet;exact⟨rfl,rfl⟩
  | x :: ys,U=>
   simp only[AA] at o;have hx:x=1∨x=2:=by
    simp only[a4q,Bool.and_eq_false_iff,Bz] at U;exact U
   obtain⟨b,off,rfl,aK,hc⟩:∃b off,a=some ⟨b,off,none⟩/\b<r.heap.size/\r.cell? ⟨b,off,none⟩=some (.int .u8 (x.toNat:Int)):=by
    rcases h'.2.2.2 with h | ⟨b,off,F,h2,h3⟩
    ·omega
    ·exact⟨b,off,F,h2,by have:=h3 0 (by simp);rw[BT] at this;exact this⟩
   have aQ:(0:Int)<(len:Int):=by omega
   clear h h' U o hl;rcases hx with rfl | rfl
   ·rw[show((1:UInt8).toNat:Int)=1 from rfl] at hc;go_wp2_with fail;go_meet;exact⟨rfl,rfl⟩
   ·rw[show((2:UInt8).toNat:Int)=2 from rfl] at hc;go_wp2_with fail;go_meet;exact⟨rfl,rfl⟩
 case rest=>
  obtain⟨rfl,rfl⟩:=hcut;have aa:a4F xs=if (rdW xs).length<4 then 10 else if rdW xs≠be (crcMore 0 (xs.take (rdE xs))) 4 then 14 else if ¬a1Z ((rdK xs).1:Nat) (rdQ xs).1 (rdB xs).1.length then 12 else 0:=by unfold a4F;rw[U,Ag (by simp)]
  have ai:=qh aa;clear aa U h;go_wp2_with fail;refine(a78 a len cap xs r h' hl).mono ?_;rintro e w1 ⟨q,O,rfl,hR,hb1⟩;have ap:=(Ext.refl r).step hb1;have hb0:xs.length<=big:=by omega
  have l1:(rdK xs).2.1.length<=big:=Ad (a0P (xs,0) 1) hb0;have l2:(rdQ xs).2.1.length<=big:=Ad (a0P (rdK xs).2 8) l1;have l3:(rdB xs).2.1.length<=(rdQ xs).2.1.length:=Ad (a0P _ _) (a0P (rdQ xs).2 2);have l4:(rdB xs).2.1.length<=big:=Ad l3 l2;have aP:rdLeft (rdB xs).2<=xs.length:=by
   unfold rdLeft;split
   ·omega
   ·exact Ad l3 (Ad (a0P (rdK xs).2 8) (a0P (xs,0) 1))
  have HE:=qh (show rdE xs=xs.length - rdLeft (rdB xs).2 from rfl);have HW:=qh (show rdW xs=(a08 (rdB xs).2 4).1 from rfl);have aU:(a08 (rdB xs).2 4).1.length<=4:=a4G (rdB xs).2 4;have a0:=qh (a3N r.heap.size q O (xs,0) w1 hR hb0);change Hid (Calls _ _ _ _ (fun e w'=>e= .returned (.int .i64 ((rdK xs).1:Nat))/\RPost w1 r.heap.size q O (rdK xs).2 w')) at a0;have X:=qh (fun w h=>a3L r.heap.size q O (rdK xs).2 w h l1);change Hid (∀w,_->Calls _ _ _ _ (fun e w'=>e= .returned (.int .u64 ((rdQ xs).1:Nat))/\RPost w r.heap.size q O (rdQ xs).2 w')) at X;have R:=qh (fun w h=>a7j r.heap.size q O (rdQ xs).2 w h l2);change Hid (∀w,_->Calls _ _ _ _ (fun e w'=>∃v,e= .returned v/\Own w' w.heap.size v (rdB xs).1/\RPost w r.heap.size q O (rdB xs).2 w')) at R;have aN:(rdK xs).1<256:=a6i _;have aM:(rdQ xs).1<18446744073709551616:=a8Z _;generalize ae:(rdK xs).1=k at *;generalize(rdK xs).2=s1 at *;generalize ad:(rdQ xs).1=B at *;generalize(rdQ xs).2=s2 at *;generalize a7:(rdB xs).1=bo at *;generalize(rdB xs).2=s3 at *;have a1:=qh (aI ae (aI ad a7));clear a7 ae ad;go_wp2_with fail;refine a0.out.mono ?_;rintro e w2 ⟨rfl,n⟩;obtain⟨ao,aq⟩:=ap.next n
  clear n ap hR a0;go_wp2_with fail;refine(X.out _ aq).mono ?_;rintro e w3 ⟨rfl,n⟩;obtain⟨a3,a5⟩:=ao.next n
  clear n ao aq X;go_wp2_with fail;refine(R.out _ a5).mono ?_;rintro e w4 ⟨v,rfl,ho,n⟩;obtain⟨a2,Q⟩:=a3.next n
  have ax:∀k,v.ownBlock=some k->k≠q:=by
   intro k hk e;have:=a5.lt;rcases ho.parts with⟨F,_⟩ | ⟨g,c,F,h2,h3⟩
   ·rw[F] at hk;simp[Value.ownBlock] at hk
   ·rw[F] at hk;simp[Value.ownBlock] at hk;omega
  have ho:=ho.base a3.2;clear n a3 a5 R;obtain⟨A,z,rfl,az⟩:=ho.bs;have M:=a07 w4 #[.int .i64 (k:Int),.int .u64 (B:Int),.slice A bo.length z] 89 0;have J:=a07 w4 #[.int .i64 (k:Int),.int .u64 (B:Int),.slice A bo.length z] 89 1;have I:=a07 w4 #[.int .i64 (k:Int),.int .u64 (B:Int),.slice A bo.length z] 89 2;have ab:=a2.alloc (.cells #[.int .i64 (k:Int),.int .u64 (B:Int),.slice A bo.length z] 89);have L:=Q.below ((Ab _ _).alloc (Aa _) (.cells #[.int .i64 (k:Int),.int .u64 (B:Int),.slice A bo.length z] 89));have am:=ho.alloc (.cells #[.int .i64 (k:Int),.int .u64 (B:Int),.slice A bo.length z] 89);have l:=a0S w4 (.cells #[.int .i64 (k:Int),.int .u64 (B:Int),.slice A bo.length z] 89);have aA:r.heap.size<=w4.heap.size:=a2.2;obtain⟨Z,hZ⟩:=qnm w4.heap.size;simp only[qge] at M J I;have a8:=Q.lt;rw[<-hZ] at M J I l aA a8;have HZ:=qh hZ;clear hZ a2 Q ho az;go_upto_region 5 with fail
  rw[<-HZ.out];generalize w4.alloc (.cells #[.int .i64 (k:Int),.int .u64 (B:Int),.slice A bo.length z] 89)=w5 at *;have al:=a8U r.heap.size q O s3 w5 L;have ac:IntKind.i64.wrap ((len:Int) - (rdLeft s3:Int))=((rdE xs:Nat):Int):=by rw[HE.out,o,Ak _ (by unfold big at hl;omega)];omega
  have aH:rdE xs<=len:=by rw[HE.out];omega
  generalize P:rdE xs=D at *;have au:=qh P;clear P;generalize rdLeft s3=lf at *;go_wp2_with fail;refine al.mono ?_;rintro e w6 ⟨rfl,rfl⟩;clear al;go_wp2_with fail;refine(a2W r.heap.size q O s3.1 s3.2 4 _ L l4).mono ?_;rintro e w6 ⟨v,rfl,ah,n⟩;obtain⟨p,aG⟩:=ab.next n
  have aL:q<Z:=by have:=L.lt;have:=n.2;have:=a8;omega
  have M:=(n.2.cell l (by omega)).trans M;have J:=(n.2.cell l (by omega)).trans J;have I:=(n.2.cell l (by omega)).trans I;have t:Z<w6.heap.size:=Ai l n.2.size;have C:Own w6 r.heap.size (.slice A bo.length z) bo:=n.2.own am (fun k hk=>by have:=ax k hk;omega);obtain⟨aw,cw,rfl,V⟩:=ah.bs;have aj:Bs w6 a len cap xs:=h'.below p.1;have ar:=qh (show rdW xs=(a08 s3 4).1 from HW.out);clear n aG L ab ah am HW ac;generalize(a08 s3 4).1=W at *;obtain⟨T,Y,C2⟩:=HC.out;obtain⟨F0,F1,F2⟩:=HF.out;have G:=p.cel m T;have N:=p.cel m Y;have K:=p.cel m C2;have f0:=p.frz m F0;have f1:=p.frz m F1;have f2:=p.frz m F2;clear T Y C2 F0 F1 F2;have af:=an.to (p.1.mono (Bt m));by_cases a4:W.length<4
  ·have d:=ai.out;rw[ar.out,Ah a4] at d;have f:=qh d;clear d;go_wp2_with fail;refine Aj (v:=b0Z 0 0 (.slice none 0 0) 0 10) (by simp[results,Tryz.results248,go_sem,b0Z,G,N,K]) rfl ⟨.inr ⟨by rw[f.out];decide,by rw[f.out];rfl⟩,?_⟩;exact(((af.setCell (Aa _) _).setCell (Aa _) _).setCell (Aa _) _).1
  ·have a4:W.length=4:=by omega
   have aD:=aj.take (k:=D) (by omega);have aB:(be (crcMore 0 (xs.take D)) 4).length=4:=a0d _ _;have ay:=qh (fun w h=>a7f a D cap (xs.take D) w h);generalize ag:be (crcMore 0 (xs.take D)) 4=S at *;have aS:=qh ag;clear ag;rw[a4] at V;go_upto_region 9 with fail
   go_cut [46] (fun s wx=>s= .bool (decide (W≠S))/\Ext w6.heap.size w6 wx);case first=>
    have aR:=a09 V.drew;have q1:(0:Int)<=(D:Int):=by omega
    have q2:(D:Int)<=(cap:Int):=by have:=aj.2.1;omega
    have q3:D<=cap:=by omega
    go_region_with ((go_at_call 297;refine(ay.out _ aD.drew).mono ?_;rintro e w9 ⟨v9,rfl,aF,ak⟩;obtain⟨a9,c9,rfl,aE⟩:=aF.bsn aB;have aC:=(Ext.refl w6).drew.step ak;have aO:=a09 aE;have aT:=a09 (V.drew.below ak)));all_goals (go_wp2_with fail;go_meet;refine⟨An Value.bool ?_,?_⟩)
    all_goals first | exact aC | exact strOf_ne _ _
   case rest=>
    obtain⟨rfl,i⟩:=hcut;have D0:=qh M;have D1:=qh J;have D2:=qh I;have CC:=qh (aI G (aI N K));have FF:=qh (aI f0 (aI f1 f2));have M:=i.cel t M;have J:=i.cel t J;have I:=i.cel t I;have G:=i.cel (show H<w6.heap.size by omega) G;have N:=i.cel (show H<w6.heap.size by omega) N;have K:=i.cel (show H<w6.heap.size by omega) K;have f0:=i.frz (show H<w6.heap.size by omega) f0;have f1:=i.frz (show H<w6.heap.size by omega) f1;have f2:=i.frz (show H<w6.heap.size by omega) f2;have E:=af.step i.1;have C:=C.below i.1;have d:=ai.out;rw[ar.out,Ag (by omega)] at d;by_cases y:W=S
    ·rw[Ag (by simp[y])] at d;have e1:decide (W≠S)=false:=by simp[y]
     have HR:=qh (a15 (k:Int) B A bo.length z);rw[e1];have f:=qh d;clear d y e1;go_wp2_with fail;refine(HR.out _).mono ?_;rintro e w7 ⟨rfl,hb7⟩;have j:=i.step hb7;have E:=E.step hb7;have C:=C.below hb7;clear M J I G N K f0 f1 f2;have M:=j.cel t D0.out;have J:=j.cel t D1.out;have I:=j.cel t D2.out;have G:=j.cel (show H<w6.heap.size by omega) CC.out.1;have N:=j.cel (show H<w6.heap.size by omega) CC.out.2.1;have K:=j.cel (show H<w6.heap.size by omega) CC.out.2.2;have f0:=j.frz (show H<w6.heap.size by omega) FF.out.1;have f1:=j.frz (show H<w6.heap.size by omega) FF.out.2.1;have f2:=j.frz (show H<w6.heap.size by omega) FF.out.2.2;clear D0 D1 D2 CC FF;by_cases u:a1Z (k:Int) B bo.length
     ·have a6:=qh (AB u);rw[a6.out];have d:=f.out;rw[Ag (fun h=>h u)] at d;have f:=qh d;clear d u;have aJ:IntKind.i64.wrap ((D:Int)+4)=(D:Int)+4:=Ak _ (by unfold big at hl;omega);go_wp2_with fail;refine Aj (v:=b0Z (k:Int) B (.slice A bo.length z) ((D:Int)+4) 0) (by simp[results,Tryz.results248,go_sem,b0Z,G,N,K]) rfl ⟨.inl ⟨by rw[f.out],.slice A bo.length z,?_,?_⟩,?_⟩
      ·rw[a1.out.1,a1.out.2.1,au.out]
      ·rw[a1.out.2.2];rcases C.parts with⟨F,h2⟩ | ⟨g,c,F,h2,h3⟩
       ·rw[F,h2];exact Own.nil _ _
       ·rw[F];exact Own.of_row (((h3.setOther (a:=⟨H,0,none⟩) (by show g≠H;omega) _).setOther (a:=⟨H,1,none⟩) (by show g≠H;omega) _).setOther (a:=⟨H,2,none⟩) (by show g≠H;omega) _) (by omega)
      ·exact(((E.setCell (Aa _) _).setCell (Aa _) _).setCell (Aa _) _).1
     ·have a6:=qh (Aq u);rw[a6.out];have d:=f.out;rw[Ah u] at d;have f:=qh d;clear d u;go_wp2_with fail;refine Aj (v:=b0Z 0 0 (.slice none 0 0) 0 12) (by simp[results,Tryz.results248,go_sem,b0Z,G,N,K]) rfl ⟨.inr ⟨by rw[f.out];decide,by rw[f.out];rfl⟩,?_⟩;exact(((E.setCell (Aa _) _).setCell (Aa _) _).setCell (Aa _) _).1
    ·rw[Ah y] at d;have e1:decide (W≠S)=true:=by simp[y]
     rw[e1];have f:=qh d;clear d y e1;go_wp2_with fail;refine Aj (v:=b0Z 0 0 (.slice none 0 0) 0 14) (by simp[results,Tryz.results248,go_sem,b0Z,G,N,K]) rfl ⟨.inr ⟨by rw[f.out];decide,by rw[f.out];rfl⟩,?_⟩;exact(((E.setCell (Aa _) _).setCell (Aa _) _).setCell (Aa _) _).1
theorem b1T(a:Option Addr)(b cap:Nat)(xs:List UInt8)(w:World)(h:Bs w a b cap xs)(d:b<=big):
  Calls Tryz.prog 248 #[.slice a b cap] w fun e w'=>b42 xs w.heap.size e w'/\Below w.heap.size w w':=by
 cases c:a4q xs with
 | true=>
  refine(a98 a b cap xs w h c).mono fun e w' ⟨f,g⟩=>⟨.inr ?_,g⟩
  have:a4F xs=12:=by unfold a4F;rw[Ah c]
  rw[this];exact⟨by decide,f⟩
 | false=>exact a8Y a b cap xs w h d c
theorem a6t(ys:List UInt8)(h:ys.length<=65535):a0j ys=be ys.length 2 ++ys:=by
 unfold a0j;rw[Nat.min_eq_left h,Am h]
theorem b3u(k q:Nat)(ys a:List UInt8)(hk:k<256)(e:q<18446744073709551616)(b:ys.length<=65535):
  rdK (a0M k q ys ++a)=(k,(be q 8 ++(a0j ys ++a),0))/\rdQ (a0M k q ys ++a)=(q,(a0j ys ++a,0))/\rdB (a0M k q ys ++a)=(ys,(a,0)):=by
 have d:rdK (a0M k q ys ++a)=(k,(be q 8 ++(a0j ys ++a),0)):=by
  unfold rdK a0M;rw[List.append_assoc,List.append_assoc,a4I,AN hk]
 have c:rdQ (a0M k q ys ++a)=(q,(a0j ys ++a,0)):=by
  unfold rdQ;rw[d];exact a3M _ _ e
 refine⟨d,c,?_⟩;unfold rdB;rw[c,a6t _ b];exact a6h _ _ b
theorem a3a(k q:Nat)(ys:List UInt8)(h:ys.length<=65535):(a0M k q ys).length=11+ys.length:=by
 simp[a0M,a0d,a6t _ h];omega
theorem a2b(k q:Nat)(ys:List UInt8)(h:ys.length<=65535):(a1i k q ys).length=15+ys.length:=by
 simp[a1i,a3a k q ys h,a0d];omega
theorem b0J(k q:Nat)(ys a:List UInt8)(hk:k=1∨k=2):a4q (a0M k q ys ++a)=false:=by
 rcases hk with rfl | rfl <;>rfl
theorem b3v(k q:Nat)(ys a:List UInt8)(b:a1Z (k:Int) q ys.length):
  a4F (a1i k q ys ++a)=0/\(rdK (a1i k q ys ++a)).1=k/\(rdQ (a1i k q ys ++a)).1=q/\(rdB (a1i k q ys ++a)).1=ys/\rdE (a1i k q ys ++a)=11+ys.length:=by
 have hk:k=1∨k=2:=by have:=b.2.2;omega
 have d:ys.length<=65535:=by have:=b.2.1;omega
 have j:q<18446744073709551616:=by have:=b.1;omega
 have i:a1i k q ys ++a=a0M k q ys ++(be (crcMore 0 (a0M k q ys)) 4 ++a):=by simp[a1i]
 rw[i];obtain⟨g,f,c⟩:=b3u k q ys (be (crcMore 0 (a0M k q ys)) 4 ++a) (by omega) j d;have e:rdE (a0M k q ys ++(be (crcMore 0 (a0M k q ys)) 4 ++a))=11+ys.length:=by
  unfold rdE;rw[c];unfold rdLeft;rw[Ag (by simp)];simp only[Af,a3a k q ys d];omega
 have l:rdW (a0M k q ys ++(be (crcMore 0 (a0M k q ys)) 4 ++a))=be (crcMore 0 (a0M k q ys)) 4:=by
  unfold rdW;rw[c];simp only;rw[a1F (be (crcMore 0 (a0M k q ys)) 4) a 4 (by rw[a0d];rfl)]
 refine⟨?_,by rw[g],by rw[f],by rw[c],e⟩;unfold a4F;rw[b0J k q ys _ hk,l,e,g,f,c,Ag (by simp),a0d,Ag (by omega),Ag (by
  rw[show 11+ys.length=(a0M k q ys).length from(a3a k q ys d).symm,Bk]
  ·simp
  ·rfl),Ag (fun h=>h b)]
end
section
open Go.RowKit Go.ChangeMaps Go.MapKept
abbrev b2B:TypeId:=74
abbrev TI64:TypeId:=3
theorem a1m:Maps.Keyed Tryz.prog TI64:=Maps.int_keyed Tryz.underlying3
theorem a9I(i:Nat)(h:i<=1000000000):keyOf Tryz.prog TI64 (.int .i64 (i:Int))=some (numS.lit i):=b5Q Tryz.underlying3 i h
theorem a6d{n:Nat}:∀(L:List (Nat×Value)) (b:Nat),L.Pairwise (fun p q=>p.1<q.1)->(∀p∈L,b<=p.1/\p.1<n)->L.length<=n - b
 | [],_,_,_=>by simp
 | x :: r,b,a,h=>by
  obtain⟨d,c⟩:=Bc.1 a;have e:=h x (AL ..);have:=a6d r (x.1+1) c (fun p a=>⟨d p a,(h p (AI _ a)).2⟩);simp;omega
theorem MapAt.rising{w:World}{b:Nat}{L:List (Nat×Value)}(h:MapAt numS Tryz.prog TI64 w b L):L.Pairwise (fun p q=>p.1<q.1):=by
 obtain⟨f,e,d,_⟩:=World.ownsMap.canon h a1m;unfold a3o at e;injection e with e
 rw[<-e,A2] at d;exact d.imp (fun {a b} c=>by simpa[numS,Lit.before] using c)
def Dk(w:World)(d sb mb n:Nat)(S:List UInt8)(M:Nat->Option (List UInt8)):Prop:=
 (d≠sb/\d≠mb/\sb≠mb)/\S.length=128 * n/\n<=4096/\(∃cap wr,w.heap[d]? =some (.cells #[.slice (some ⟨sb,0,none⟩) (128 * n) cap,.map (some mb),.int .i64 wr] b2B (0,0))/\Row w sb cap S)/\
 ∃L,MapAt numS Tryz.prog TI64 w mb L/\(∀i,getK i L=none->M i=none)/\∀i v,getK i L=some v->i<n/\∃a c e,v= .slice a 128 c/\Bs w a 128 c e/\M i=some e/\∀b,a=some b->b.block≠d/\b.block≠sb/\b.block≠mb
theorem Dk.below{w w':World}{d sb mb n:Nat}{S:List UInt8}{M:Nat->Option (List UInt8)}(h:Dk w d sb mb n S M)(b:Below w.heap.size w w'):Dk w' d sb mb n S M:=by
 obtain⟨r,s,h3,⟨cap,wr,f,m⟩,L,q,l,k⟩:=h;refine⟨r,s,h3,⟨cap,wr,(b.block d (Array.getElem?_eq_some_iff.1 f).1).trans f,m.below b⟩,L,q.below numS b,l,fun i v u=>?_⟩;obtain⟨p,a,c,j,e,t,o,g⟩:=k i v u;exact⟨p,a,c,j,e,t.below b,o,g⟩
theorem Dk.lt{w:World}{d sb mb n:Nat}{S:List UInt8}{M:Nat->Option (List UInt8)}(h:Dk w d sb mb n S M):d<w.heap.size/\sb<w.heap.size/\mb<w.heap.size:=by
 obtain⟨_,_,_,⟨cap,wr,c,a⟩,L,b,_⟩:=h;exact⟨(Array.getElem?_eq_some_iff.1 c).1,a.lt,b.lt⟩
theorem b1f{a:Type}[DecidableEq a]{L:List (a×Value)}{p:a×Value}(h:p∈L):∃v,getK p.1 L=some v:=by
 unfold getK;cases b:L.find? (fun q=>decide (q.1=p.1)) with
 | some q=>exact ⟨q.2,rfl⟩
 | none=>have:=CB.1 b p h;simp at this
def sect(S:List UInt8)(M:Nat->Option (List UInt8))(i:Nat):List UInt8:=(M i).getD ((S.drop (128 * i)).take 128)
theorem a0E{w w':World}{b:Nat}(h:w.mapTurned w' b):Chg (fun k=>k=b) w w':=by
 obtain⟨f,c,d,a,e,rfl⟩:=h;exact⟨rfl,rfl,rfl,by simp[setBlock],fun k _ hk=>heap_setBlock_other e _ hk⟩
theorem a3r{w w':World}{b:Array Oper}{o:Oper}{a:Act}{K:Act->World->Prop}{Q:Exit->Act->World->Prop}{E:Prop}(d:Region.wanted o (yielded b a.tmps)=true)(m x v:Operand)(t:TypeId)
  (j:o.op=Op.mapUpdate t m x v) (e c val:Value) (f:a.eval m=e) (i:a.eval x=c) (hv:a.eval v=val) (h:(Instr.mapUpdate t e c val).run Tryz.prog w= .ok () w') (g:K (a.put o.dst undef) w'):
  if Region.wanted o (yielded b a.tmps)=true then Oper.wp Tryz.prog o a w K Q else E:=by
 rw[Ah d];unfold Oper.wp;simp[execOp,j,f,i,hv,h,Result.andThen];exact g
theorem Dk.len_le{w:World}{d sb mb n:Nat}{S:List UInt8}{M:Nat->Option (List UInt8)}(_h:Dk w d sb mb n S M){L:List (Nat×Value)}(b:MapAt numS Tryz.prog TI64 w mb L)(e:n<=4096)(a:∀i v,getK i L=some v->i<n):L.length<=1000000:=by
 have:=a6d (n:=n) L 0 b.rising (fun p c=>⟨AH _,by obtain⟨v,hv⟩:=b1f c;exact a _ _ hv⟩);omega
theorem a2N{w:World}{d sb mb n:Nat}{S:List UInt8}{M:Nat->Option (List UInt8)}(h:Dk w d sb mb n S M):
  Calls Tryz.prog 57 #[.pointer (some ⟨d,0,none⟩)] w fun e w'=>e= .returned (.int .i64 (n:Int))/\w=w':=by
 obtain⟨_,c,g,⟨cap,wr,a,b⟩,_⟩:=h;have j:=a0a a 0;have i:((128 * n:Nat):Int).tdiv 128=(n:Int):=by rw[Int.tdiv_eq_ediv_of_nonneg (by omega)];omega
 have f:IntKind.i64.wrap (n:Int)=(n:Int):=Ak _ (by omega);clear a b;go_enter Tryz.func57,Tryz.ntmps57;go_wp2;go_ret;exact⟨rfl,rfl⟩
theorem b6Y{w:World}{d sb mb n:Nat}{S:List UInt8}{M:Nat->Option (List UInt8)}(h:Dk w d sb mb n S M)(i:Int):
  Calls Tryz.prog 202 #[.pointer (some ⟨d,0,none⟩),.int .i64 i] w fun e w'=>e= .returned (.bool (decide (0<=i/\i<(n:Int))))/\w=w':=by
 have a:=qh (a2N h);clear h;by_cases b:0<=i
 ·by_cases c:i<(n:Int)
  ·rw[AB ⟨b,c⟩];go_enter Tryz.func202,Tryz.ntmps202;go_wp2_with fail;refine a.out.mono ?_;rintro e f ⟨rfl,rfl⟩;go_wp2_with fail;go_ret;exact⟨rfl,rfl⟩
  ·rw[Aq (fun h=>c h.2)];go_enter Tryz.func202,Tryz.ntmps202;go_wp2_with fail;refine a.out.mono ?_;rintro e f ⟨rfl,rfl⟩;go_wp2_with fail;go_ret;exact⟨by show Ending.returned (Value.bool (decide (i<(n:Int))))=_;rw[Aq (by omega)],rfl⟩
 ·rw[Aq (fun h=>b h.1)];go_enter Tryz.func202,Tryz.ntmps202;go_wp2_with fail;go_ret;exact⟨rfl,rfl⟩
theorem b65{w:World}{d sb mb n:Nat}{S:List UInt8}{M:Nat->Option (List UInt8)}(h:Dk w d sb mb n S M)(i:Nat)(y:i<n):
  Calls Tryz.prog 127 #[.pointer (some ⟨d,0,none⟩),.int .i64 (i:Int)] w fun e w'=>(∃c,e= .returned (.slice (some ⟨sb,128 * i,none⟩) 128 c)/\Bs w (some ⟨sb,128 * i,none⟩) 128 c ((S.drop (128 * i)).take 128))/\w=w':=by
 obtain⟨_,p,s,⟨cap,wr,j,l⟩,_⟩:=h;have f:=l.bs;rw[p] at f;have m:=f.2.1;have a:=(f.drop (k:=128 * i) (by omega)).take (k:=128) (by omega);have g:¬cap=128 * i:=by omega
 rw[Ag g] at a;have b:(some (⟨sb,0,none⟩:Addr)).map (·.add (128 * i))=some ⟨sb,128 * i,none⟩:=by
  by_cases o:i=0
  ·simp[Addr.add,o]
  ·have:¬128 * i=0:=by omega
   simp[Addr.add,this]
 rw[b] at a;have HB:=qh a;have x:=a0a j 0;have u:IntKind.i64.wrap ((i:Int) * 128)=((128 * i:Nat):Int):=by rw[Ak _ (by omega)];omega
 have r:IntKind.i64.wrap (((i:Int)+1) * 128)=((128 * i+128:Nat):Int):=by rw[Ak _ (by omega)];omega
 have v:128 * i+128<=cap:=by omega
 have t:128 * i<=128 * i+128:=by omega
 have q:128 * i<=cap:=by omega
 clear j l f a b;go_enter Tryz.func127,Tryz.ntmps127;go_wp2;go_ret;exact⟨⟨cap - 128 * i,by show Ending.returned (Value.slice (some ⟨sb,128 * i,none⟩) (128 * i+128 - 128 * i) (cap - 128 * i))=_;rw[Cn],HB.out⟩,rfl⟩
theorem a6H{w:World}{d sb mb n:Nat}{S:List UInt8}{M:Nat->Option (List UInt8)}(h:Dk w d sb mb n S M)(i:Nat)(x:i<n):
  Calls Tryz.prog 207 #[.pointer (some ⟨d,0,none⟩),.int .i64 (i:Int)] w fun e w'=>∃v,e= .returned (.tuple #[v,.int .i64 0])/\Own w' w.heap.size v (sect S M i)/\Below w.heap.size w w':=by
 have m:=qh (b6Y h (i:Int));rw[AB ⟨by omega,by omega⟩] at m;have r:=qh (b65 h i x);obtain⟨_,D,B,⟨cap,wr,t,z⟩,L,s,g,j⟩:=h;have C:=a0a t 1;have f:=s.look_ok numS a1m Tryz.underlying72 (Tryz.zeroValue30 w) (a9I i (by omega));clear t z s;cases k:getK i L with
 | none=>
  rw[k] at f;have l:=g i k;have b:sect S M i=(S.drop (128 * i)).take 128:=by unfold sect;rw[l];rfl
  rw[b];clear g j k l b;simp only[Ct,Bq] at f;go_enter Tryz.func207,Tryz.ntmps207;go_wp2_with fail;refine m.out.mono ?_;rintro e A ⟨rfl,rfl⟩;go_wp2_with fail;refine r.out.mono ?_;rintro e w2 ⟨⟨c,rfl,p⟩,rfl⟩;go_wp2_with fail;refine(a0V _ 128 c _ _ p (by unfold big;omega)).mono ?_;rintro e y ⟨v,rfl,q,o⟩;go_wp2_with fail;go_ret2;exact⟨v,rfl,q,o⟩
 | some u=>
  rw[k] at f;obtain⟨_,a,c,bs,rfl,p,l,_⟩:=j i u k;have b:sect S M i=bs:=by unfold sect;rw[l];rfl
  rw[b];clear g j k l b r;simp only[B8,Bp] at f;go_enter Tryz.func207,Tryz.ntmps207;go_wp2_with fail;refine m.out.mono ?_;rintro e A ⟨rfl,rfl⟩;go_wp2_with fail;refine(a0V _ 128 c _ _ p (by unfold big;omega)).mono ?_;rintro e y ⟨v,rfl,q,o⟩;go_wp2_with fail;go_ret2;exact⟨v,rfl,q,o⟩
def b5e(M:Nat->Option (List UInt8))(i:Nat)(a:List UInt8)(j:Nat):Option (List UInt8):=if j=i then some a else M j
theorem b6z{w z r:World}{d sb mb n:Nat}{S:List UInt8}{M:Nat->Option (List UInt8)}(h:Dk w d sb mb n S M){L:List (Nat×Value)}{i:Nat}(Y:i<n){t:Option Addr}{B:Nat}{bs:List UInt8}{cap:Nat}{wr:Int}(u:Int)
  (Q:w.heap[d]? =some (.cells #[.slice (some ⟨sb,0,none⟩) (128 * n) cap,.map (some mb),.int .i64 wr] b2B (0,0))) (J:∀i,getK i L=none->M i=none)
  (O:∀i v,getK i L=some v->i<n/\∃a c bs,v= .slice a 128 c/\Bs w a 128 c bs/\M i=some bs/\∀ad,a=some ad->ad.block≠d/\ad.block≠sb/\ad.block≠mb)
  (s:Below w.heap.size w z) (U:Own z w.heap.size (.slice t 128 B) bs) (K:bs.length=128) (X:z.mapTurned r mb) (E:MapAt numS Tryz.prog TI64 r mb (a1w numS i (.slice t 128 B) L)):
  Dk (r.setCell ⟨d,2,none⟩ (.int .i64 u)) d sb mb n S (b5e M i bs)/\Chg (fun k=>k=d∨k=mb) w (r.setCell ⟨d,2,none⟩ (.int .i64 u)):=by
 have A:=h.lt;have h6:=h.below s;obtain⟨m,hS,hn,⟨x,V,Z,T⟩,_⟩:=h6;have H:x=cap:=by
  have e:=Z.symm.trans ((s.block d A.1).trans Q);injection e with e;injection e with e _ _;simp at e;exact e.1
 rw[H] at T;have C:=a0E X;have D:Chg (fun k=>k=d∨k=mb) z (r.setCell ⟨d,2,none⟩ (.int .i64 u)):=(C.mono (fun k _ hk=>.inr hk)).setCell (p:=⟨d,2,none⟩) (fun _=>.inl rfl) _;have I:=(Chg.of_below s (fun k=>k=d∨k=mb)).trans D (fun _ _ h=>h);have a0:=s.size;have F:r.heap[d]? =some (.cells #[.slice (some ⟨sb,0,none⟩) (128 * n) cap,.map (some mb),.int .i64 wr] b2B (0,0)):=(C.block d (by omega) m.2.1).trans ((s.block d A.1).trans Q);have G:Bs z t 128 B bs:=by
  obtain⟨a,c,e,hB⟩:=U.bsn K;injection e with o R e3
  subst o e3;exact hB
 refine⟨⟨m,hS,hn,⟨cap,u,a0f (k:=2) (y:=.int .i64 u) F,D.row T (fun hk=>hk.elim (fun e=>m.1 e.symm) m.2.2)⟩,a1w numS i (.slice t 128 B) L,?_,fun j f=>?_,fun j v f=>?_⟩,I⟩
 ·exact E.same numS (A5 _ _ _ _ (by show mb≠d;exact fun e=>m.2.1 e.symm))
 ·rw[a1v] at f;unfold b5e;by_cases l:j=i
  ·simp[l] at f
  ·rw[Ag l] at f⊢;exact J j f
 ·rw[a1v] at f;unfold b5e;by_cases l:j=i
  ·subst l;rw[Ah rfl] at f⊢;injection f with f
   have q:∀ad,t=some ad->w.heap.size<=ad.block:=fun ad b=>by
    rcases U.parts with⟨o,_⟩ | ⟨g,cp,o,R,_⟩
    ·injection o with o;rw[o] at b;cases b
    ·injection o with o;rw[o] at b;injection b with b;subst b;exact R
   refine⟨Y,t,B,bs,f.symm,D.bs G (fun ad b hk=>?_),rfl,fun ad b=>?_⟩
   ·have:=q ad b;rcases hk with hk | hk <;>omega
   ·have:=q ad b;omega
  ·rw[Ag l] at f⊢;obtain⟨W,a,c,N,h2,h3,h5,P⟩:=O j v f;refine⟨W,a,c,N,h2,D.bs (h3.below s) (fun ad b hk=>?_),h5,P⟩;have:=P ad b;rcases hk with hk | hk
   ·exact this.1 hk
   ·exact this.2.2 hk
theorem a7D{w:World}{d sb mb n:Nat}{S:List UInt8}{M:Nat->Option (List UInt8)}(h:Dk w d sb mb n S M)(i:Nat)(N:i<n)(a:Option Addr)(c:Nat)(A:List UInt8)(z:Bs w a 128 c A):
  Calls Tryz.prog 120 #[.pointer (some ⟨d,0,none⟩),.int .i64 (i:Int),.slice a 128 c] w fun e w'=>e= .returned (.int .i64 0)/\Dk w' d sb mb n S (b5e M i A)/\Chg (fun k=>k=d∨k=mb) w w':=by
 have G:=qh (b6Y h (i:Int));rw[AB ⟨by omega,by omega⟩] at G;have I:=qh h;have q:=h.lt.1;obtain⟨C,R,P,⟨cap,wr,o,T⟩,L,H,j,b⟩:=h;have B:=qh (I.out.len_le H P (fun i v hv=>(b i v hv).1));have y:=qh (aI o (aI j (aI b z.1)));have J:=a0a o 1;clear o T j b R;have O:i<=4096:=by omega
 go_enter Tryz.func120,Tryz.ntmps120;go_wp2_with fail;refine G.out.mono ?_;rintro e U ⟨rfl,rfl⟩;go_upto_region 3 with fail
 refine a0h (fun i=>[0,1,2,3,4,5,6].contains i) (fun w'=>w'.cell? ⟨d,1,none⟩=some (.map (some mb))) (by kernel_rfl) ?_ (fun hHeld=>?_)
 ·go_keep
 refine qtk 0 16 ?_;refine qtk 1 17 ?_;refine qtk 2 18 ?_;refine qtk 3 19 ?_;refine qtk 4 20 ?_;refine qtk 5 21 ?_;refine qone 6 fun K hK=>?_
 go_simp;refine(a0V a 128 c A _ z.drew (by unfold big;omega)).mono ?_;rintro e w6 ⟨v,rfl,r,m⟩;obtain⟨Q,J,rfl,E⟩:=r.bsn (n:=128) z.1;have hHeld:((fun w'=>w'.cell? ⟨d,1,none⟩=some (.map (some mb)))) w6:=(m.cell (p:=⟨d,1,none⟩) q).trans hHeld;have b:=(H.below numS (Ab _ _).drew).below numS m;obtain⟨F,D,g,f⟩:=b.put numS a1m Tryz.underlying72 B.out (a9I i (by omega)) (.slice Q 128 J);have t:=qh (aI r (aI m (aI g f)));clear b g f r m E;go_wp2_with fail;refine hK.out _ _ (fun _=>hHeld) ?_;clear hK K;refine qone 7 fun K hK=>?_
 refine a3r (by rfl) (.tmp 19) (.tmp 20) (.tmp 22) 72 rfl _ _ _ (by rfl) (by rfl) (by rfl) D ?_;go_wp2_with fail;refine hK.out _ _ (fun h=>by simp at h) ?_;clear hK K;refine qdon ?_;obtain⟨r,m,g,f⟩:=t.out;obtain⟨o,j,b,x⟩:=y.out;have hb6:Below w.heap.size w w6:=(Ab _ w).drew.trans m;have l:F.heap[d]? =some (.cells #[.slice (some ⟨sb,0,none⟩) (128 * n) cap,.map (some mb),.int .i64 wr] b2B (0,0)):=((a0E f).block d (Ai q hb6.size) C.2.1).trans ((hb6.block d q).trans o);have W:=a0a l 2;have V:F.frozen? ⟨d,2,none⟩=false:=by simp[World.frozen?,l]
 have s:=qh (fun u=>b6z I.out N u o j b hb6 r x f g);clear r m g f o j b x hb6 l hHeld y t;go_wp2_with fail;go_ret;exact⟨rfl,s.out _⟩
end
end Go.Proofs.YtbemfdcjieakdaaGreatDoor
