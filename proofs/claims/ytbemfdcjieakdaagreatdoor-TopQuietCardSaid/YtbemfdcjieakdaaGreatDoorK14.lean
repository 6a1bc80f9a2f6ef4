/- PtDec; Super; ReadSuper. -/
import Derived.Test.YtbemfdcjieakdaaGreatDoorK08
import Derived.Test.YtbemfdcjieakdaaGreatDoorK13
set_option maxRecDepth 100000
set_option maxHeartbeats 8000000
namespace Go.Proofs.YtbemfdcjieakdaaGreatDoor
section
open Go.RowKit
theorem RI.below{w W W':World}{p q:Nat}{rb:Option Nat}{L:List UInt8}(h:RI w p q rb W L)(a:Below W.heap.size W W'):RI w p q rb W' L:=⟨h.1.step a,h.2.1.below a,h.2.2⟩
theorem b7m{w W:World}{p q:Nat}{rb:Option Nat}{L:List UInt8}(ys:List UInt8)(n:Int)(h:RI w p q rb W (ys ++L))(c:n=ys.length):
  Calls Tryz.prog 53 #[.pointer (some ⟨q,0,none⟩),.int .i64 n] W fun e w'=>(∃v,e= .returned v/\Own w' W.heap.size v ys)/\RI w p q rb w' L:=by
 refine(a2W p q rb (ys ++L) 0 n W h.2.1 h.2.2).mono ?_;rintro e w' ⟨v,rfl,b,a⟩;rw[a1F ys L n c] at b a;exact⟨⟨v,rfl,b⟩,a4D h a rfl (by simp)⟩
theorem b3I(c:Nat)(e:c<4294967296):bits .or .u32 ((c:Int) / 65536 * 65536) ((c:Int) % 65536)=(c:Int):=by
 have a:(c:Int) / 65536 * 65536=((c / 65536 * 65536:Nat):Int):=by omega
 have d:(c:Int) % 65536=((c % 65536:Nat):Int):=by omega
 rw[a,d,u32_or_nat _ _ (by omega) (by omega)];congr 1;have:=Nat.two_pow_add_eq_or_of_lt (i:=16) (b:=c % 65536) (by omega) (c / 65536);rw[Cy] at this;simp only[show(2:Nat) ^ 16=65536 from rfl] at this;rw[<-this];omega
theorem b8Q(c:Nat):be c 2=be (c % 65536) 2:=by
 have:=b3D (c / 65536) (c % 65536) 2;rw[show c / 65536 * 256 ^ 2+c % 65536=c by omega] at this;exact this
def PtPost(a:Nat)(m:Mk)(B:Nat)(e:Ending)(w':World):Prop:=
 ∃ah b ch f d c,e= .returned (.tuple #[.agg #[.int .u64 (m.gen:Int),.int .u64 (m.seq:Int),.int .i64 m.seg,.slice ah b ch,.slice f d c],.int .i64 (a:Int)])/\Own w' B (.slice ah b ch) m.head/\Own w' B (.slice f d c) m.state
theorem PtPost.zero(a:Nat)(B:Nat)(w':World):PtPost a Mk.zero B (.returned (.tuple #[.agg #[.int .u64 0,.int .u64 0,.int .i64 0,.slice none 0 0,.slice none 0 0],.int .i64 (a:Int)])) w':=
 ⟨none,0,0,none,0,0,rfl,Own.nil _ _,Own.nil _ _⟩
theorem a5A{B:Nat}{a w:World}{b:Nat}(h:Below B a w)(c:B<=b)(e d i g f:Value):Below B a (((((w.setCell ⟨b,0,none⟩ e).setCell ⟨b,1,none⟩ d).setCell ⟨b,2,none⟩ i).setCell ⟨b,3,none⟩ g).setCell ⟨b,4,none⟩ f):=
 ((((h.setCell (p:=⟨b,0,none⟩) c _).setCell (p:=⟨b,1,none⟩) c _).setCell (p:=⟨b,2,none⟩) c _).setCell (p:=⟨b,3,none⟩) c _).setCell (p:=⟨b,4,none⟩) c _
theorem Own.store5{w:World}{B:Nat}{v:Value}{xs:List UInt8}(h:Own w B v xs){b:Nat}(a:∀k,v.ownBlock=some k->k≠b)(d c g f e:Value):Own (((((w.setCell ⟨b,0,none⟩ d).setCell ⟨b,1,none⟩ c).setCell ⟨b,2,none⟩ g).setCell ⟨b,3,none⟩ f).setCell ⟨b,4,none⟩ e) B v xs:=
 ((((h.setOther (p:=⟨b,0,none⟩) a _).setOther (p:=⟨b,1,none⟩) a _).setOther (p:=⟨b,2,none⟩) a _).setOther (p:=⟨b,3,none⟩) a _).setOther (p:=⟨b,4,none⟩) a _
theorem a6M(b a:Option Addr)(g c d f:Nat)(xs ys:List UInt8)(w:World)(h:Bs w b g d xs)(i:Bs w a c f ys):
  Calls Tryz.prog 181 #[.slice b g d,.slice a c f] w fun e w'=>e= .returned (.bool (decide (xs=ys)))/\w=w':=by
 have k:=a09 h;have j:=a09 i;have l:((a0c xs).toList == (a0c ys).toList)=decide (xs=ys):=by
  rw[a0X,a0X,Bl];simp
 go_enter Tryz.func181,Tryz.ntmps181;go_wp2;go_ret;exact⟨rfl,rfl⟩
theorem b8Y(s p g:Int)(a:Option Addr)(c cap:Nat)(w:World)(h:¬isPlan s p g∨(c:Int)≠128 * p):
  Calls Tryz.prog 276 #[.agg #[.int .i64 s,.int .i64 p,.int .i64 g],.slice a c cap] w fun e w'=>PtPost 1 Mk.zero w.heap.size e w'/\Below w.heap.size w w':=by
 obtain⟨H,r⟩:=qnm w.heap.size;have hE:=((Ext.refl w).alloc (.cells #[.int .i64 s,.int .i64 p,.int .i64 g] 47)).alloc (.cells #[.int .u64 0,.int .u64 0,.int .i64 0,.slice none 0 0,.slice none 0 0] 119);have hP:=(AW (w.alloc (.cells #[.int .i64 s,.int .i64 p,.int .i64 g] 47)) (.cells #[.int .u64 0,.int .u64 0,.int .i64 0,.slice none 0 0,.slice none 0 0] 119) w.heap.size (by simp)).trans (Ae w (.cells #[.int .i64 s,.int .i64 p,.int .i64 g] 47));have hZ:=Ae (w.alloc (.cells #[.int .i64 s,.int .i64 p,.int .i64 g] 47)) (.cells #[.int .u64 0,.int .u64 0,.int .i64 0,.slice none 0 0,.slice none 0 0] 119);have q:=trivial;rw[AR] at hZ;rw[<-r] at hE hP hZ⊢;have u:=qh r;clear r;have o:=qh (aI hE (aI hP (aI hZ q)));clear hE hP hZ q;by_cases f:isPlan s p g
 ·have d:(c:Int)≠128 * p:=h.resolve_left (fun A=>A f);have i:=qh (fun w=>a2X s p g w f);have t:=f.bd;have K:IntKind.i64.wrap (128 * p)=128 * p:=Ak _ (by omega);have G:((c:Int) != 128 * p)=true:=by rw[BG];exact d
  clear h f d t;go_enter Tryz.func276,Tryz.ntmps276;go_wp2_with fail;rw[<-u.out];obtain⟨hE,hP,hZ,q⟩:=o.out;clear o;generalize(w.alloc (.cells #[.int .i64 s,.int .i64 p,.int .i64 g] 47)).alloc (.cells #[.int .u64 0,.int .u64 0,.int .i64 0,.slice none 0 0,.slice none 0 0] 119)=J at *;refine(i.out _).mono ?_;rintro e w1 ⟨rfl,b⟩;replace hE:=hE.step b;replace hP:=(b.block H (a0w hP)).trans hP;replace hZ:=(b.block (H+1) (a0w hZ)).trans hZ;clear b i;have B:=a0a hP 0;have I:=a0a hP 1;have D:=a0a hP 2;simp only[qge] at B I D;have F:=a0w hZ;have j:=a0a hZ 0;have m:=a0a hZ 1;have k:=a0a hZ 2;have l:=a0a hZ 3;have n:=a0a hZ 4;have E:=a0i hZ 0;have y:=a0i hZ 1;have C:=a0i hZ 2;have x:=a0i hZ 3;have z:=a0i hZ 4;simp only[qge] at j m k l n;go_wp2_with fail;refine Aj (v:=.tuple #[.agg #[.int .u64 0,.int .u64 0,.int .i64 0,.slice none 0 0,.slice none 0 0],.int .i64 1]) (by simp[results,Tryz.results276,go_sem,j,m,k,l,n]) rfl ⟨PtPost.zero 1 _ _,a5A hE.1 (As _) _ _ _ _ _⟩
 ·have i:=qh (fun w=>b5D s p g w f);clear h f;go_enter Tryz.func276,Tryz.ntmps276;go_wp2_with fail;rw[<-u.out];obtain⟨hE,hP,hZ,q⟩:=o.out;clear o;generalize(w.alloc (.cells #[.int .i64 s,.int .i64 p,.int .i64 g] 47)).alloc (.cells #[.int .u64 0,.int .u64 0,.int .i64 0,.slice none 0 0,.slice none 0 0] 119)=J at *;refine(i.out _).mono ?_;rintro e w1 ⟨rfl,b⟩;replace hE:=hE.step b;replace hP:=(b.block H (a0w hP)).trans hP;replace hZ:=(b.block (H+1) (a0w hZ)).trans hZ;clear b i;have F:=a0w hZ;have j:=a0a hZ 0;have m:=a0a hZ 1;have k:=a0a hZ 2;have l:=a0a hZ 3;have n:=a0a hZ 4;have E:=a0i hZ 0;have y:=a0i hZ 1;have C:=a0i hZ 2;have x:=a0i hZ 3;have z:=a0i hZ 4;simp only[qge] at j m k l n;go_wp2_with fail;refine Aj (v:=.tuple #[.agg #[.int .u64 0,.int .u64 0,.int .i64 0,.slice none 0 0,.slice none 0 0],.int .i64 1]) (by simp[results,Tryz.results276,go_sem,j,m,k,l,n]) rfl ⟨PtPost.zero 1 _ _,a5A hE.1 (As _) _ _ _ _ _⟩
structure DI (w1:World) (q0 q M B1:Nat) (rb:Option Nat) (ah:Option Addr) (ch:Nat) (HD:List UInt8) (C:Array Value) (L:List UInt8) (wx:World):Prop where
 ri:RI w1 q0 q rb wx L
 m:wx.heap[M]? =some (.cells C 119 (0,0))
 oh:Own wx B1 (.slice ah 32 ch) HD
 qM:q≠M
 qB:q<B1
 hM:∀k,(Value.slice ah 32 ch).ownBlock=some k->k≠M
variable {w1 : World} {q0 q M B1 : Nat} {rb : Option Nat} {ah : Option Addr} {ch : Nat} {HD : List UInt8} {C : Array Value} {L : List UInt8} {wx : World}
theorem DI.next(h:DI w1 q0 q M B1 rb ah ch HD C L wx){L':List UInt8}{w':World}(hP:RPost wx q0 q rb (L',0) w')(hl:L'.length<=L.length):DI w1 q0 q M B1 rb ah ch HD C L' w' where
 ri:=a4D h.ri hP rfl hl
 m:=(hP.2.block M (a0w h.m) (fun e=>h.qM e.symm)).trans h.m
 oh:=hP.2.own h.oh (fun k hk e=>by have:=h.oh.blk k hk;have:=h.qB;omega)
 qM:=h.qM
 qB:=h.qB
 hM:=h.hM
theorem DI.below(h:DI w1 q0 q M B1 rb ah ch HD C L wx){w':World}(hb:Below wx.heap.size wx w'):DI w1 q0 q M B1 rb ah ch HD C L w' where
 ri:=h.ri.below hb
 m:=(hb.block M (a0w h.m)).trans h.m
 oh:=h.oh.below hb
 qM:=h.qM
 qB:=h.qB
 hM:=h.hM
theorem b6y(n:Nat)(h:DI w1 q0 q M B1 rb ah ch HD C (be n 8 ++L) wx)(b:n<18446744073709551616):
  Calls Tryz.prog 180 #[.pointer (some ⟨q,0,none⟩)] wx fun e w'=>e= .returned (.int .u64 (n:Int))/\DI w1 q0 q M B1 rb ah ch HD C L w':=by
 refine(a3L q0 q rb (be n 8 ++L,0) wx h.ri.2.1 h.ri.2.2).mono ?_;rintro e w' ⟨rfl,a⟩;rw[a3M n L b] at a⊢;exact⟨rfl,h.next a (by simp)⟩
theorem a9o(n:Nat)(h:DI w1 q0 q M B1 rb ah ch HD C (be n 2 ++L) wx)(b:n<65536):
  Calls Tryz.prog 54 #[.pointer (some ⟨q,0,none⟩)] wx fun e w'=>e= .returned (.int .i64 (n:Int))/\DI w1 q0 q M B1 rb ah ch HD C L w':=by
 refine(a1S q0 q rb (be n 2 ++L,0) wx h.ri.2.1 h.ri.2.2).mono ?_;rintro e w' ⟨rfl,a⟩;rw[a1T n L,AN b] at a⊢;exact⟨rfl,h.next a (by simp)⟩
theorem b4o(ys:List UInt8)(n:Int)(h:DI w1 q0 q M B1 rb ah ch HD C (ys ++L) wx)(c:n=ys.length):
  Calls Tryz.prog 53 #[.pointer (some ⟨q,0,none⟩),.int .i64 n] wx fun e w'=>(∃v,e= .returned v/\Own w' wx.heap.size v ys)/\DI w1 q0 q M B1 rb ah ch HD C L w'/\Chg (fun k=>k=q) wx w':=by
 refine(a2W q0 q rb (ys ++L) 0 n wx h.ri.2.1 h.ri.2.2).mono ?_;rintro e w' ⟨v,rfl,b,a⟩;rw[a1F ys L n c] at b a;exact⟨⟨v,rfl,b⟩,h.next a (by simp),a.2⟩
theorem Own.ltp{w:World}{B:Nat}{v:Value}{xs:List UInt8}(h:Own w B v xs):∀k,v.ownBlock=some k->k<w.heap.size:=by
 intro k hk;rcases h.parts with⟨rfl,rfl⟩ | ⟨g,cap,rfl,b,a⟩
 ·cases hk
 ·have:g=k:=by injection hk
  rw[<-this];exact a.lt
def PtIn(G Q S:Nat)(H:List UInt8)(N c:Nat)(h:List UInt8):Prop:=G<18446744073709551616/\Q<18446744073709551616/\S<65536/\H.length=32/\N<18446744073709551616/\c<4294967296/\h.length=32
theorem b7r(s p g:Int)(a:Option Addr)(len cap:Nat)(w:World)(G Q S N c:Nat)(HD h rest:List UInt8)(hp:isPlan s p g)(hB:Bs w a len cap (a5G G Q S HD N c h rest))(D:(len:Int)=128 * p)(ak:PtIn G Q S HD N c h):
  Calls Tryz.prog 276 #[.agg #[.int .i64 s,.int .i64 p,.int .i64 g],.slice a len cap] w fun e w'=>PtPost (a5d p g G Q S HD N c h rest) (b8X (a5d p g G Q S HD N c h rest) G Q S HD N rest) w.heap.size e w'/\Below w.heap.size w w':=by
 obtain⟨H,hH⟩:=qnm w.heap.size;have hE:=((Ext.refl w).alloc (.cells #[.int .i64 s,.int .i64 p,.int .i64 g] 47)).alloc (.cells #[.int .u64 0,.int .u64 0,.int .i64 0,.slice none 0 0,.slice none 0 0] 119);have hP:=(AW (w.alloc (.cells #[.int .i64 s,.int .i64 p,.int .i64 g] 47)) (.cells #[.int .u64 0,.int .u64 0,.int .i64 0,.slice none 0 0,.slice none 0 0] 119) w.heap.size (by simp)).trans (Ae w (.cells #[.int .i64 s,.int .i64 p,.int .i64 g] 47));have hZ:=Ae (w.alloc (.cells #[.int .i64 s,.int .i64 p,.int .i64 g] 47)) (.cells #[.int .u64 0,.int .u64 0,.int .i64 0,.slice none 0 0,.slice none 0 0] 119);replace hB:=(hB.alloc (.cells #[.int .i64 s,.int .i64 p,.int .i64 g] 47)).alloc (.cells #[.int .u64 0,.int .u64 0,.int .i64 0,.slice none 0 0,.slice none 0 0] 119);rw[AR] at hZ;rw[<-hH] at hE hP hZ⊢;have HH:=qh hH;clear hH;have HW:=qh (aI hE (aI hP (aI hZ hB)));clear hE hP hZ hB;have aK:=qh hp;have HR:=qh (fun w=>a2X s p g w hp);have ac:=hp.bd;have i1:IntKind.i64.wrap (128 * p)=128 * p:=Ak _ (by omega);have b9:((len:Int) != 128 * p)=false:=by rw[Bz];exact D
 have ba:len<=200000:=by omega
 have aP:=qh D;have aL:=qh ac;have aW:=qh ak;clear hp D ac ak;go_enter Tryz.func276,Tryz.ntmps276;go_wp2_with fail;rw[<-HH.out];obtain⟨hE,hP,hZ,hB⟩:=HW.out;clear HW;generalize(w.alloc (.cells #[.int .i64 s,.int .i64 p,.int .i64 g] 47)).alloc (.cells #[.int .u64 0,.int .u64 0,.int .i64 0,.slice none 0 0,.slice none 0 0] 119)=w0 at *;refine(HR.out _).mono ?_;rintro e w1 ⟨rfl,d⟩;replace hE:=hE.step d;replace hP:=(d.block H (a0w hP)).trans hP;replace hZ:=(d.block (H+1) (a0w hZ)).trans hZ;replace hB:=hB.below d;clear d HR;have p0:=a0a hP 0;have p1:=a0a hP 1;have p2:=a0a hP 2;simp only[qge] at p0 p1 p2;go_wp2_with fail;refine(b7n a len cap _ w1 hB (by unfold big;omega)).mono ?_;rintro e w2 ⟨q,rb,rfl,I,d,aV⟩;have z:RI w1 w1.heap.size q rb w2 (a5G G Q S HD N c h rest):=⟨(Ext.refl w1).step d,I,by rw[hB.1];unfold big;omega⟩
 obtain⟨q0,E⟩:=qnm w1.heap.size;have ay:∀k,rb=some k->q0<=k:=by obtain⟨_,_,_,_,_,_,_,h6⟩:=I;rw[E];exact h6
 have bh:q0<=q:=by rw[E];exact I.1
 have aR:=I.lt;rw[<-E] at z;have l:=qh E;obtain⟨n1,n2,n3,n4,n5,n6,n7⟩:=aW.out;have HX:=qh (show a5G G Q S HD N c h rest=be G 8 ++(be Q 8 ++(be S 2 ++(HD ++(be N 8 ++(be (c / 65536) 2 ++(be (c % 65536) 2 ++(h ++rest))))))) by unfold a5G a2c;rw[b8Q c];simp only[List.append_assoc]);rw[HX.out] at z;clear I d E;go_wp2_with fail;refine(b0X G z n1).mono ?_;rintro e w3 ⟨rfl,z⟩;go_wp2_with fail;refine(b0X Q z n2).mono ?_;rintro e w4 ⟨rfl,z⟩;go_wp2_with fail;refine(b3o S z n3).mono ?_;rintro e w5 ⟨rfl,z⟩;have aB:=z.2.1.lt;go_wp2_with fail;refine(b7m HD 32 z (by rw[n4];rfl)).mono ?_;rintro e w6 ⟨⟨vh,rfl,O⟩,z⟩;obtain⟨ah,ch,rfl,aT⟩:=O.bsn (n:=32) n4;have a9:=(Ab w6.heap.size w6).alloc (Aa _) (.cells #[.int .u64 (G:Int),.int .u64 (Q:Int),.int .i64 (S:Int),.slice ah 32 ch,.slice none 0 0] 119);have hM:=Ae w6 (.cells #[.int .u64 (G:Int),.int .u64 (Q:Int),.int .i64 (S:Int),.slice ah 32 ch,.slice none 0 0] 119);have hD:DI w1 q0 q w6.heap.size w5.heap.size rb ah ch HD _ _ (w6.alloc (.cells #[.int .u64 (G:Int),.int .u64 (Q:Int),.int .i64 (S:Int),.slice ah 32 ch,.slice none 0 0] 119)):=⟨z.below a9,hM,O.below a9,Nat.ne_of_lt z.2.1.lt,aB,fun k hk=>Nat.ne_of_lt (O.ltp k hk)⟩
 have ai:=z.2.1.lt;obtain⟨B1,af⟩:=qnm w5.heap.size;rw[<-af] at hD;clear a9 hM z aT O aB aV ay aR;go_wp2_with fail;generalize w6.alloc (.cells #[.int .u64 (G:Int),.int .u64 (Q:Int),.int .i64 (S:Int),.slice ah 32 ch,.slice none 0 0] 119)=w7 at *;obtain⟨M,am⟩:=qnm w6.heap.size;have an:=qh ai;rw[<-am] at hD an⊢;clear ai;clear am af;refine(b6y N hD n5).mono ?_;rintro e w8 ⟨rfl,hD⟩;go_wp2_with fail;refine(a9o (c / 65536) hD (by omega)).mono ?_;rintro e w9 ⟨rfl,hD⟩;go_wp2_with fail;refine(a9o (c % 65536) hD (by omega)).mono ?_;rintro e b2 ⟨rfl,hD⟩;have a0:=qh (aI hD.ri.2.1.lt (a0w hD.m));go_wp2_with fail;refine(b4o h 32 hD (by rw[n7];rfl)).mono ?_;rintro e aE ⟨⟨vx,rfl,hOX⟩,hD,a2⟩;have HSX:=qh a2.size;clear a2;obtain⟨ax,cx,rfl,U⟩:=hOX.bsn (n:=32) n7;have bc:=b3I c n6;have aZ:=hB.1;have b1:=hB.2.1;have bi:=aL.out;have bj:=aP.out;have aq:len=94+rest.length:=by rw[<-aZ,a5v _ _ _ _ _ _ _ _ n4 n7]
 have aC:=qh aq;clear aq;have B:H+1<q0:=by rw[l.out];exact a0w hZ
 have W:H<q0:=by omega
 have bb:(58:Int)<=(cap:Int):=by omega
 have b0:58<=cap:=by omega
 have au:(a5G G Q S HD N c h rest).take 58=a2c G Q S HD N:=by unfold a5G;exact Bk (a2C G Q S HD N n4)
 have ab:=hD.ri.1.bs l.out.symm (hB.take (k:=58) (by omega));rw[au] at ab;have ag:a5d p g G Q S HD N c h rest=if c≠crcMore 0 (a2c G Q S HD N) then 14 else if ¬(1<=G/\G<=MT/\Q<=MT/\(S:Int)<=g/\(N:Int)<=128 * p - 94/\a6n (rest.drop N)=true) then 12 else if sha (rest.take N)≠h then 40 else 0:=rfl
 have a8:=qh ag;clear ag au U;go_wp2_with fail;refine(a4j a 58 cap _ aE ab).mono ?_;rintro e b6 ⟨rfl,rfl⟩;generalize crcMore 0 (a2c G Q S HD N)=cr at *;clear ab;have f:=hE.to (hD.ri.1.1.mono (by rw[l.out];exact hE.2));have b:=(hD.ri.1.1.block (H+1) B).trans hZ;have i:=(hD.ri.1.1.block H W).trans hP;by_cases hc:c=cr
 ·have aO:((c:Int) != (cr:Int))=false:=by rw[Bz];omega
  have x0:=a0a i 0;have x1:=a0a i 1;have x2:=a0a i 2;simp only[qge] at x0 x1 x2;have y0:=a0a hD.m 0;have y1:=a0a hD.m 1;have y2:=a0a hD.m 2;have y3:=a0a hD.m 3;have y4:=a0a hD.m 4;simp only[qge] at y0 y1 y2 y3 y4;have C:Hid (a5d p g G Q S HD N c h rest=if ¬(1<=G/\G<=MT/\Q<=MT/\(S:Int)<=g/\(N:Int)<=128 * p - 94/\a6n (rest.drop N)=true) then 12 else if sha (rest.take N)≠h then 40 else 0):=qh (by rw[a8.out,Ag (by simp[hc])]);have ao:=qh (a4l s p g ⟨G,Q,(S:Int),HD,[]⟩ ah none 32 ch 0 0 aE n4);clear hc a8;go_wp2_with fail;refine ao.out.mono ?_;rintro e aS ⟨rfl,d⟩;replace hD:=hD.below d;replace hOX:=hOX.below d;replace HSX:=qh (Ad HSX.out d.size);clear d ao f b i x0 x1 x2 y0 y1 y2 y3 y4;have f:=hE.to (hD.ri.1.1.mono (by rw[l.out];exact hE.2));have b:=(hD.ri.1.1.block (H+1) B).trans hZ;have i:=(hD.ri.1.1.block H W).trans hP;by_cases hr:Mk.right ⟨G,Q,(S:Int),HD,[]⟩ g
  ·rw[AB hr];obtain⟨r1,r2,r3,r4,r5,r6⟩:=hr;simp only at r1 r2 r3 r4 r5 r6;have Y:=qh (aI r1 (aI r2 (aI r3 r5)));clear r1 r2 r3 r4 r5 r6;have x0:=a0a i 0;have x1:=a0a i 1;have x2:=a0a i 2;simp only[qge] at x0 x1 x2;have i2:IntKind.u64.wrap (128 * p - 94)=128 * p - 94:=by rw[IntKind.wrap_u64];omega
   have aw:=qh (a77 s p g aS aK.out);go_wp2_with fail;refine aw.out.mono ?_;rintro e aJ ⟨rfl,d⟩;replace hD:=hD.below d;replace hOX:=hOX.below d;replace HSX:=qh (Ad HSX.out d.size);clear d aw f b i x0 x1 x2;have f:=hE.to (hD.ri.1.1.mono (by rw[l.out];exact hE.2));have b:=(hD.ri.1.1.block (H+1) B).trans hZ;have i:=(hD.ri.1.1.block H W).trans hP;by_cases hN:(N:Int)<=128 * p - 94
   ·have aN:¬128 * p - 94<(N:Int):=by omega
    have HN:=qh hN;have i3:IntKind.i64.wrap (N:Int)=(N:Int):=Ak _ (by omega);obtain⟨K,hK⟩:∃K:Nat,K=94+N:=⟨_,rfl⟩
    have i4:IntKind.i64.wrap (94+(N:Int))=(K:Int):=by rw[Ak _ (by omega)];omega
    have k1:(K:Int)<=(len:Int):=by omega
    have k2:K<=len:=by omega
    have k3:(0:Int)<=(K:Int):=by omega
    have aj:(a5G G Q S HD N c h rest).drop K=rest.drop N:=by
     have hl:(a2c G Q S HD N ++(be (c / 65536) 2 ++(be c 2 ++h))).length=94:=by simp[a2C _ _ _ _ _ n4,a0d,n7]
     have e:a5G G Q S HD N c h rest=(a2c G Q S HD N ++(be (c / 65536) 2 ++(be c 2 ++h))) ++rest:=by unfold a5G;simp only[List.append_assoc]
     rw[e,hK,<-hl,List.drop_append,Bh (by omega),AJ];congr 1;omega
    have X:=hD.ri.1.bs l.out.symm (hB.drop (k:=K) k2);rw[aj] at X;obtain⟨ad,ap⟩:∃ad,(if cap=K then a else a.map (·.add K))=ad:=⟨_,rfl⟩
    rw[ap] at X;have HK:=qh hK;have az:=qh (a7S ad (len - K) (cap - K) _ aJ X);clear hN hK aj X;go_wp2_with fail;refine az.out.mono ?_;rintro e aF ⟨⟨bg,kt,b7,rfl,a1⟩,d⟩;replace hD:=hD.below d;replace hOX:=hOX.below d;replace HSX:=qh (Ad HSX.out d.size);clear d az f b i ap;have f:=hE.to (hD.ri.1.1.mono (by rw[l.out];exact hE.2));have b:=(hD.ri.1.1.block (H+1) B).trans hZ;have i:=(hD.ri.1.1.block H W).trans hP;by_cases F:a5I (rest.drop N)=true
    ·obtain rfl:kt=0:=by
      refine Classical.byContradiction fun h=>?_
      have:=a1.1 (by omega);rw[F] at this;cases this
     have av:Hid (a5d p g G Q S HD N c h rest=if sha (rest.take N)≠h then 40 else 0):=qh (by rw[C.out,Ag];simp only[Classical.not_not];exact⟨Y.out.1,Y.out.2.1,Y.out.2.2.1,Y.out.2.2.2,HN.out,F⟩);have aa:(rest.take N).length=N:=by have h1:=HN.out;have h2:=aC.out;rw[Av];omega
     have a7:=hD;rw[<-List.take_append_drop N rest] at a7;clear F a1 C hD f b i;generalize rest.drop N=L2 at *;have aH:Hid (b8X 0 G Q S HD N rest=⟨G,Q,(S:Int),HD,rest.take N⟩):=qh rfl;generalize rest.take N=T at *;go_wp2_with fail;refine(b4o T N a7 (by rw[aa])).mono ?_;rintro e aM ⟨⟨vt,rfl,R⟩,hD,aD⟩;obtain⟨J,L,rfl,V⟩:=R.bsn (n:=N) aa;have a4:=aD.own hOX (fun k hk e=>by have h1:=hOX.blk k hk;have h2:=a0.out.1;omega);have f:=hE.to (hD.ri.1.1.mono (by rw[l.out];exact hE.2));have b:=(hD.ri.1.1.block (H+1) B).trans hZ;have y4:=a0a hD.m 4;have g4:=a0i hD.m 4;simp only[qge] at y4;have aG:H+1<M:=by have:=an.out;omega
     have hOTs:=R.setOther (p:=⟨M,4,none⟩) (fun k hk e=>by have h1:=R.blk k hk;have h2:=a0.out.2;have h3:=HSX.out;have e':k=M:=e;omega) (.slice J N L);have hOXs:=a4.setOther (p:=⟨M,4,none⟩) (fun k hk e=>by have h1:=hOX.blk k hk;have h2:=a0.out.2;have e':k=M:=e;omega) (.slice J N L);have hOHs:=hD.oh.setOther (p:=⟨M,4,none⟩) (fun k hk e=>hD.hM k hk e) (.slice J N L);have hMs:=a0f (k:=4) (y:=.slice J N L) hD.m;have hEs:=f.setCell (p:=⟨M,4,none⟩) (by show H<=M;omega) (.slice J N L);have hZs:=a6K (Z:=M) (k:=4) (y:=.slice J N L) b (by omega);have ae:=qh (show H+1<B1 by have:=hD.qB;omega);have a3:=qh (show H+1<aF.heap.size by have h2:=a0.out.2;have h3:=HSX.out;omega);clear f b V R a4 hOX aD a7 aG;go_wp2_with fail;generalize aM.setCell ⟨M,4,none⟩ (.slice J N L)=aX at *;clear y4 g4 hD;simp only[Aw,qz] at hMs;obtain⟨b5,bf,A,V⟩:=hOTs.bsn (n:=N) aa;injection A with A a6 a5
     subst A a5;clear a6;refine(a2I J N L T aX V (by have:=aC.out;have:=HN.out;omega)).mono ?_;rintro e aY ⟨vs,rfl,aA,d⟩;obtain⟨aU,cs,rfl,ar⟩:=aA.bsn (n:=32) (a0v _);replace hOTs:=hOTs.below d;replace hOXs:=hOXs.below d;replace hOHs:=hOHs.below d;replace hMs:=(d.block M (a0w hMs)).trans hMs;replace hEs:=hEs.step d;replace hZs:=(d.block (H+1) (a0w hZs)).trans hZs;clear d aA V;obtain⟨b3,b8,A,U⟩:=hOXs.bsn (n:=32) n7;injection A with A a6 a5
     subst A a5;clear a6 hOXs;have P:=qh (a6M aU ax 32 32 cs cx (sha T) h aY ar U);clear ar U;by_cases he:sha T=h
     ·rw[AB he] at P;have j:Hid (a5d p g G Q S HD N c h rest=0):=qh (by rw[av.out,Ag (by simp[he])]);clear he;go_wp2_with fail;refine P.out.mono ?_;rintro e aQ ⟨rfl,rfl⟩;have y0:=a0a hMs 0;have y1:=a0a hMs 1;have y2:=a0a hMs 2;have y3:=a0a hMs 3;have y4:=a0a hMs 4;simp only[qge] at y0 y1 y2 y3 y4;have hz:=a0w hZs;have o:=a0a hZs 0;have t:=a0a hZs 1;have r:=a0a hZs 2;have x:=a0a hZs 3;have u:=a0a hZs 4;have f0:=a0i hZs 0;have f1:=a0i hZs 1;have f2:=a0i hZs 2;have f3:=a0i hZs 3;have f4:=a0i hZs 4;simp only[qge] at o t r x u;go_wp2_with fail;refine Aj (v:=.tuple #[.agg #[.int .u64 (G:Int),.int .u64 (Q:Int),.int .i64 (S:Int),.slice ah 32 ch,.slice J N L],.int .i64 0]) (by simp[results,Tryz.results276,go_sem,o,t,r,x,u]) rfl ⟨?_,a5A hEs.1 (As _) _ _ _ _ _⟩;rw[j.out,aH.out];exact⟨ah,32,ch,J,N,L,rfl,(hOHs.store5 (fun k hk e=>by have h1:=hOHs.blk k hk;have h2:=ae.out;omega) _ _ _ _ _).weaken (by have h2:=ae.out;omega),(hOTs.store5 (fun k hk e=>by have h1:=hOTs.blk k hk;have h2:=a3.out;omega) _ _ _ _ _).weaken (by have h2:=a3.out;omega)⟩
     ·rw[Aq he] at P;have j:Hid (a5d p g G Q S HD N c h rest=40):=qh (by rw[av.out,Ah he]);clear he;go_wp2_with fail;refine P.out.mono ?_;rintro e aQ ⟨rfl,rfl⟩;have hz:=a0w hZs;have o:=a0a hZs 0;have t:=a0a hZs 1;have r:=a0a hZs 2;have x:=a0a hZs 3;have u:=a0a hZs 4;have f0:=a0i hZs 0;have f1:=a0i hZs 1;have f2:=a0i hZs 2;have f3:=a0i hZs 3;have f4:=a0i hZs 4;simp only[qge] at o t r x u;go_wp2_with fail;refine Aj (v:=.tuple #[.agg #[.int .u64 0,.int .u64 0,.int .i64 0,.slice none 0 0,.slice none 0 0],.int .i64 40]) (by simp[results,Tryz.results276,go_sem,o,t,r,x,u]) rfl ⟨by rw[j.out];exact PtPost.zero 40 _ _,a5A hEs.1 (As _) _ _ _ _ _⟩
    ·have b4:(0:Int)<(kt:Int):=by have:=a1.2 (by simpa using F);omega
     have j:Hid (a5d p g G Q S HD N c h rest=12):=qh (by rw[C.out,Ah];intro hh;exact F hh.2.2.2.2.2);clear a1;have hz:=a0w b;have o:=a0a b 0;have t:=a0a b 1;have r:=a0a b 2;have x:=a0a b 3;have u:=a0a b 4;have f0:=a0i b 0;have f1:=a0i b 1;have f2:=a0i b 2;have f3:=a0i b 3;have f4:=a0i b 4;simp only[qge] at o t r x u;go_wp2_with fail;refine Aj (v:=.tuple #[.agg #[.int .u64 0,.int .u64 0,.int .i64 0,.slice none 0 0,.slice none 0 0],.int .i64 12]) (by simp[results,Tryz.results276,go_sem,o,t,r,x,u]) rfl ⟨by rw[j.out];exact PtPost.zero 12 _ _,a5A f.1 (As _) _ _ _ _ _⟩
   ·have aN:128 * p - 94<(N:Int):=by omega
    have j:Hid (a5d p g G Q S HD N c h rest=12):=qh (by rw[C.out,Ah];intro hh;exact hN hh.2.2.2.2.1);have hz:=a0w b;have o:=a0a b 0;have t:=a0a b 1;have r:=a0a b 2;have x:=a0a b 3;have u:=a0a b 4;have f0:=a0i b 0;have f1:=a0i b 1;have f2:=a0i b 2;have f3:=a0i b 3;have f4:=a0i b 4;simp only[qge] at o t r x u;go_wp2_with fail;refine Aj (v:=.tuple #[.agg #[.int .u64 0,.int .u64 0,.int .i64 0,.slice none 0 0,.slice none 0 0],.int .i64 12]) (by simp[results,Tryz.results276,go_sem,o,t,r,x,u]) rfl ⟨by rw[j.out];exact PtPost.zero 12 _ _,a5A f.1 (As _) _ _ _ _ _⟩
  ·rw[Aq hr];have j:Hid (a5d p g G Q S HD N c h rest=12):=qh (by rw[C.out,Ah];intro hh;exact hr ⟨hh.1,hh.2.1,hh.2.2.1,by simp,hh.2.2.2.1,n4⟩);have hz:=a0w b;have o:=a0a b 0;have t:=a0a b 1;have r:=a0a b 2;have x:=a0a b 3;have u:=a0a b 4;have f0:=a0i b 0;have f1:=a0i b 1;have f2:=a0i b 2;have f3:=a0i b 3;have f4:=a0i b 4;simp only[qge] at o t r x u;go_wp2_with fail;refine Aj (v:=.tuple #[.agg #[.int .u64 0,.int .u64 0,.int .i64 0,.slice none 0 0,.slice none 0 0],.int .i64 12]) (by simp[results,Tryz.results276,go_sem,o,t,r,x,u]) rfl ⟨by rw[j.out];exact PtPost.zero 12 _ _,a5A f.1 (As _) _ _ _ _ _⟩
 ·have aO:((c:Int) != (cr:Int))=true:=by rw[BG];omega
  have j:Hid (a5d p g G Q S HD N c h rest=14):=qh (by rw[a8.out,Ah hc]);have hz:=a0w b;have o:=a0a b 0;have t:=a0a b 1;have r:=a0a b 2;have x:=a0a b 3;have u:=a0a b 4;have f0:=a0i b 0;have f1:=a0i b 1;have f2:=a0i b 2;have f3:=a0i b 3;have f4:=a0i b 4;simp only[qge] at o t r x u;go_wp2_with fail;refine Aj (v:=.tuple #[.agg #[.int .u64 0,.int .u64 0,.int .i64 0,.slice none 0 0,.slice none 0 0],.int .i64 14]) (by simp[results,Tryz.results276,go_sem,o,t,r,x,u]) rfl ⟨by rw[j.out];exact PtPost.zero 14 _ _,a5A f.1 (As _) _ _ _ _ _⟩
end
section
open Go.RowKit
def a1V(n:Nat)(id:List UInt8):List UInt8:=[87,79,82,77] ++(be 1 2 ++(be n 2 ++id))
def a3I(c:Nat):List UInt8:=be (c / 65536) 2 ++(be c 2 ++List.replicate 100 0)
def supBytes(n:Nat)(id:List UInt8):List UInt8:=a1V n id ++a3I (crcMore 0 (a1V n id))
theorem b0Q(n:Nat)(a:Option Addr)(cap:Nat)(id:List UInt8)(w:World)(h:Bs w a 16 cap id)(h1:64<=n)(h2:n<=4096):
  Calls Tryz.prog 55 #[.int .i64 (n:Int),.slice a 16 cap] w fun e w'=>∃v,e= .returned (.tuple #[v,.int .i64 0])/\Own w' w.heap.size v (supBytes n id)/\Below w.heap.size w w':=by
 have Q:=h.1;go_enter Tryz.func55,Tryz.ntmps55;go_wp2_with fail;refine(b3L n _ (by omega) (by omega)).mono ?_;rintro e w1 ⟨rfl,hb1⟩;have x:=(Ext.refl w).step hb1;have F:=h.below hb1;generalize R:seg (n:Int)=T;clear R;go_wp2_with fail;have i:=x.alloc (.cells #[.int .i64 (n:Int),.int .i64 ((n:Int) / 4),.int .i64 T] 47);have M:=F.alloc (.cells #[.int .i64 (n:Int),.int .i64 ((n:Int) / 4),.int .i64 T] 47);generalize w1.alloc (.cells #[.int .i64 (n:Int),.int .i64 ((n:Int) / 4),.int .i64 T] 47)=w2 at *;refine(a2k w2).mono ?_;rintro e w3 ⟨rfl,t,hb3⟩;obtain⟨p,I⟩:=qnm w2.heap.size;rw[<-I] at t⊢;have K:=qh I;have D:WI w2 p p w3 []:=⟨by rw[I];exact(Ext.refl w2).step hb3,none,t⟩
 clear t hb3 x F h hb1 I;have kc:=fun (w:World) (C:Array Value) (n c:Nat)=>CG (P:=Tryz.prog) w 30 5 C n c Tryz.underlying30 Tryz.underlying5
 have hm:=Bs.newRow w3 #[.int .u8 87,.int .u8 79,.int .u8 82,.int .u8 77] TB (4,5) 4 4 [87,79,82,77] rfl (by omega) (by simp[maxLen]) rfl;have k:=D.below ((Ab _ _).alloc (Aa _) (.cells #[.int .u8 87,.int .u8 79,.int .u8 82,.int .u8 77] TB (4,5)));go_wp2_with fail;refine(a1E k hm (by unfold big;simp)).mono ?_;rintro e w4 ⟨rfl,B⟩;clear D k hm;go_wp2_with fail;refine(a0H 1 B (by omega) (by simp;unfold big;decide)).mono ?_;rintro e w5 ⟨rfl,z⟩;clear B;go_wp2_with fail;refine(a0H n z (by omega) (by simp[a0d];unfold big;decide)).mono ?_;rintro e w6 ⟨rfl,o⟩;clear z;have y:=o.1.bs K.out.symm M;go_wp2_with fail;refine(a1E o y (by simp[a0d];unfold big;decide)).mono ?_;rintro e w7 ⟨rfl,q⟩;have V:[] ++[87,79,82,77] ++be 1 2 ++be n 2 ++id=a1V n id:=by simp[a1V]
 rw[V] at q;have d:(a1V n id).length=24:=by simp[a1V,a0d,Q]
 clear o y V;have HX:=qh (show supBytes n id=a1V n id ++a3I (crcMore 0 (a1V n id)) from rfl);generalize a1V n id=X at *;go_wp2_with fail;refine(a10 q (by rw[d];unfold big;decide)).mono ?_;rintro e w8 ⟨a8,c8,rfl,_,u,G⟩;clear q;go_wp2_with fail;rw[d] at u;refine(a4j _ _ _ _ _ u).mono ?_;rintro e w9 ⟨rfl,rfl⟩;have a2:=a2j 0 X;generalize crcMore 0 X=c at *;clear u;go_wp2_with fail;have s:=a0H (c / 65536) G (by omega) (by rw[d];unfold big;decide);rw[show((c / 65536:Nat):Int)=(c:Int) / 65536 by omega] at s;refine s.mono ?_;rintro e w9 ⟨rfl,E⟩;clear s G;go_wp2_with fail;refine(a0H c E (by omega) (by rw[Af,d,a0d];unfold big;decide)).mono ?_;rintro e L ⟨rfl,m⟩;clear E;have j:(X ++be (c / 65536) 2 ++be c 2).length=28:=by rw[Af,Af,d,a0d,a0d]
 have g:WI w2 p p L (X ++be (c / 65536) 2 ++be c 2):=m;have HY:=qh (show(X ++be (c / 65536) 2 ++be c 2) ++List.replicate 100 0=X ++a3I c by simp[a3I]);clear m;generalize X ++be (c / 65536) 2 ++be c 2=Y at *;go_wp2_with fail;refine(a10 g (by rw[j];unfold big;decide)).mono ?_;rintro e S ⟨a3,a1,rfl,_,_,l⟩;clear g;have a4:∀W,(Instr.makeSlice 30 (.int .i64 (100:Int)) (.int .i64 (100:Int))).run Tryz.prog W= .ok (.slice (some ⟨W.heap.size,0,none⟩) 100 100) (W.alloc (.cells (madeCells #[.int .u8 0] 100) TB)):=fun W=>a1W 100 (by omega) W
 have O:=(Row.zero S 100 (by simp[maxLen])).bs;rw[Ba] at O;have f:=l.below ((Ab _ _).alloc (Aa _) (.cells (madeCells #[.int .u8 0] 100) TB));clear l;go_wp2_with fail;refine(a1E f O (by rw[j];unfold big;decide)).mono ?_;rintro e a5 ⟨rfl,b⟩;clear f O;rw[HY.out,<-HX.out] at b;have A:(supBytes n id).length<=128:=by rw[HX.out,Af,d];simp[a3I,a0d]
 obtain⟨Z,r⟩:=qnm (supBytes n id);rw[<-r] at b A;have HZ:=qh r;clear r;go_wp2_with fail;refine(a10 b (by unfold big;omega)).mono ?_;rintro e w13 ⟨N,U,rfl,ho,a0,H⟩;go_wp2_with fail;go_ret2;have J:Ext w.heap.size w w13:=i.to (H.1.1.mono (by rw[K.out];exact i.2));exact⟨.slice N Z.length U,rfl,by rw[<-HZ.out];exact ho.base (i.to (b.1.1.mono (by rw[K.out];exact i.2))).2,J.1⟩
theorem b5p(n:Int)(a:Option Addr)(b cap:Nat)(w:World)(h:n<64∨4096<n∨b≠16):
  Calls Tryz.prog 55 #[.int .i64 n,.slice a b cap] w fun e w'=>e= .returned (.tuple #[.slice none 0 0,.int .i64 1])/\Below w.heap.size w w':=by
 by_cases c:n<64∨4096<n
 ·go_enter Tryz.func55,Tryz.ntmps55;go_wp2_with fail;refine(b6W n _ c).mono ?_;rintro e d ⟨rfl,hb1⟩;go_wp2_with fail;go_ret2;exact⟨rfl,(((Ext.refl w).step hb1).alloc _).1⟩
 ·have f:((b:Int) != 16)=true:=by rw[BG];omega
  go_enter Tryz.func55,Tryz.ntmps55;go_wp2_with fail;refine(b3L n _ (by omega) (by omega)).mono ?_;rintro e d ⟨rfl,hb1⟩;go_wp2_with fail;go_ret2;exact⟨rfl,(((Ext.refl w).step hb1).alloc _).1⟩
def supN(xs:List UInt8):Nat:=(a0o (a0o (a08 (xs,0) 4).2).2).1
def a5E(xs:List UInt8):List UInt8:=(a08 (a0o (a0o (a08 (xs,0) 4).2).2).2 16).1
def a9G(xs:List UInt8):Prop:=64<=supN xs/\supN xs<=4096/\(a5E xs).length=16/\supBytes (supN xs) (a5E xs)=xs
theorem b5A(a:Option Addr)(c cap:Nat)(xs:List UInt8)(w:World)(h:Bs w a c cap xs)(hl:c<=big):
  Calls Tryz.prog 21 #[.slice a c cap] w fun e w'=>((a9G xs/\∃v,e= .returned (.tuple #[.int .i64 (supN xs:Int),v,.int .i64 0])/\Own w' w.heap.size v (a5E xs))∨
   (¬a9G xs/\e= .returned (.tuple #[.int .i64 0,.slice none 0 0,.int .i64 41])))/\Below w.heap.size w w':=by
 have a3:=h.1;have hb0:xs.length<=big:=by omega
 go_enter Tryz.func21,Tryz.ntmps21;go_wp2_with fail;refine(a78 a c cap xs _ h hl).mono ?_;rintro e w1 ⟨q,P,rfl,hR,hb1⟩;have y:=(Ext.refl w).step hb1;have Z:(a08 (xs,0) 4).2.1.length<=big:=Ad (a0P (xs,0) 4) hb0;have F:=qh (a2W w.heap.size q P xs 0 4 w1 hR hb0);have HS:Hid (supN xs=(a0o (a0o (a08 (xs,0) 4).2).2).1/\a5E xs=(a08 (a0o (a0o (a08 (xs,0) 4).2).2).2 16).1):=qh ⟨rfl,rfl⟩;generalize(a08 (xs,0) 4).1=y1 at *;generalize(a08 (xs,0) 4).2=J at *;have W:(a0o J).2.1.length<=big:=Ad (a0P J 2) Z;have s:=qh (fun B w h=>a1S B q P J w h Z);generalize(a0o J).1=y2 at *;generalize(a0o J).2=p at *;have l3:(a0o p).2.1.length<=big:=Ad (a0P p 2) W;have a1:=a3g p;have A:=qh (fun B w h=>a1S B q P p w h W);generalize(a0o p).1=n at *;generalize(a0o p).2=D at *;have O:=qh (fun B w h=>a2W B q P D.1 D.2 16 w h l3);clear Z W l3 hb0;go_wp2_with fail;refine F.out.mono ?_;rintro e w2 ⟨v1,rfl,a0,d⟩;obtain⟨u,E⟩:=y.next d
 clear d y hR a0 F;go_wp2_with fail;refine(s.out _ _ E).mono ?_;rintro e w3 ⟨rfl,d⟩;obtain⟨N,L⟩:=u.next d
 clear d u E s;go_wp2_with fail;refine(A.out _ _ L).mono ?_;rintro e w4 ⟨rfl,d⟩;obtain⟨l,x⟩:=N.next d
 clear d N L A;go_wp2_with fail;refine(O.out _ _ x).mono ?_;rintro e w5 ⟨vi,rfl,f,d⟩;obtain⟨i,K⟩:=l.next d
 have S:=l.2;clear d l x O;obtain⟨b,g⟩:=HS.out;rw[show a08 (D.1,D.2) 16=a08 D 16 from rfl,<-g] at f;have m:=f.base S;obtain⟨ai,V,rfl,j⟩:=f.bs;have hb5:=i.1;have U:=h.below hb5;by_cases hc:64<=n/\n<=4096/\(a5E xs).length=16
 ·obtain⟨c1,c2,c3⟩:=hc;have T:=qh m;have a2:=qh g;rw[c3] at j;have k:=qh (b0Q n ai V (a5E xs) w5 j c1 c2);obtain⟨r,X⟩:=qnm (decide (supBytes n (a5E xs)=xs));have C:a9G xs↔r=true:=by
   rw[X,Cm];unfold a9G;rw[b];exact⟨fun h=>h.2.2.2,fun h=>⟨c1,c2,c3,h⟩⟩
  have M:=qh C;have Y:=qh b;clear f K m g b C;go_wp2_with fail;refine k.out.mono ?_;rintro e w6 ⟨v6,rfl,I,hb6⟩;obtain⟨a6,c6,rfl,z⟩:=I.bs;have o:=b4h a6 a _ c c6 cap _ xs w6 z (U.below hb6);rw[<-X] at o;have R:=qh o;clear X o z I;go_wp2_with fail;refine R.out.mono ?_;rintro e w7 ⟨rfl,hb7⟩;have H:=((i.step hb6).step hb7).1;cases r
  ·go_wp2_with fail;refine Aj (v:=.tuple #[.int .i64 0,.slice none 0 0,.int .i64 41]) (by simp[results,Tryz.results21,go_sem]) rfl ⟨.inr ⟨by simpa using M.out,rfl⟩,H⟩
  ·go_wp2_with fail;have t:=(T.out.below hb6).below hb7;rw[c3] at t;refine Aj (v:=.tuple #[.int .i64 (n:Int),.slice ai 16 V,.int .i64 0]) (by simp[results,Tryz.results21,go_sem]) rfl ⟨.inl ⟨by simpa using M.out,_,by rw[Y.out],t⟩,H⟩
 ·have G:¬a9G xs:=fun h=>hc (by unfold a9G at h;rw[b] at h;exact⟨h.1,h.2.1,h.2.2.1⟩)
  have Q:=qh G;have k:=qh (b5p (n:Int) ai (a5E xs).length V w5 (by omega));clear hc G m f g b j K;go_wp2_with fail;refine k.out.mono ?_;rintro e w6 ⟨rfl,hb6⟩;go_wp2_with fail;refine Aj (v:=.tuple #[.int .i64 0,.slice none 0 0,.int .i64 41]) (by simp[results,Tryz.results21,go_sem]) rfl ⟨.inr ⟨Q.out,rfl⟩,(i.step hb6).1⟩
end
end Go.Proofs.YtbemfdcjieakdaaGreatDoor
