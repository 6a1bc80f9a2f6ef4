/- Writer; CodecLaw; CodecUse; Node; OpLaw; OpAsks; OpRight; Conv. -/
import Derived.Laws.IdiomStrings
import Derived.Test.YtbemfdcjieakdaaGreatDoorK06
set_option maxRecDepth 100000
set_option maxHeartbeats 8000000
namespace Go.Proofs.YtbemfdcjieakdaaGreatDoor
section
open Go.RowKit
def fb(b:Bool):UInt8:=if b then 1 else 0
theorem a5Y(B p n:Nat)(g:Option Nat)(xs:List UInt8)(w:World)(h:Wr w B p g xs)(c:n<=9223372036854775807)(a:xs.length+8<=big):
  Calls Tryz.prog 97 #[.pointer (some ⟨p,0,none⟩),.int .i64 (n:Int)] w fun e w'=>e= .returned (.tuple #[])/\WPost w B p g (xs ++[UInt8.ofNat n]) w':=by
 go_enter Tryz.func97,Tryz.ntmps97;go_wp2_with fail;refine(b0d B p n 1 g xs _ h (by omega) a).mono ?_;rintro e w' ⟨rfl,b⟩;go_wp2_with fail;go_end0;exact⟨rfl,by simpa[be] using b⟩
theorem a3U(B p n:Nat)(g:Option Nat)(xs:List UInt8)(w:World)(h:Wr w B p g xs)(c:n<=9223372036854775807)(a:xs.length+8<=big):
  Calls Tryz.prog 99 #[.pointer (some ⟨p,0,none⟩),.int .i64 (n:Int)] w fun e w'=>e= .returned (.tuple #[])/\WPost w B p g (xs ++be n 2) w':=by
 go_enter Tryz.func99,Tryz.ntmps99;go_wp2_with fail;refine(b0d B p n 2 g xs _ h (by omega) a).mono ?_;rintro e w' ⟨rfl,b⟩;go_wp2_with fail;go_end0;exact⟨rfl,b⟩
theorem a8D(B p n:Nat)(g:Option Nat)(xs:List UInt8)(w:World)(h:Wr w B p g xs)(a:xs.length+8<=big):
  Calls Tryz.prog 71 #[.pointer (some ⟨p,0,none⟩),.int .u64 (n:Int)] w fun e w'=>e= .returned (.tuple #[])/\WPost w B p g (xs ++be n 8) w':=by
 go_enter Tryz.func71,Tryz.ntmps71;go_wp2_with fail;refine(b0d B p n 8 g xs _ h (by omega) a).mono ?_;rintro e w' ⟨rfl,b⟩;go_wp2_with fail;go_end0;exact⟨rfl,b⟩
theorem b2K(B p:Nat)(b:Bool)(g:Option Nat)(xs:List UInt8)(w:World)(h:Wr w B p g xs)(c:xs.length+8<=big):
  Calls Tryz.prog 226 #[.pointer (some ⟨p,0,none⟩),.bool b] w fun e w'=>e= .returned (.tuple #[])/\WPost w B p g (xs ++[fb b]) w':=by
 cases b
 ·go_enter Tryz.func226,Tryz.ntmps226;go_wp2_with fail;refine(a5Y B p 0 g xs _ h (by omega) c).mono ?_;rintro e w' ⟨rfl,a⟩;go_wp2_with fail;go_end0;exact⟨rfl,a⟩
 ·go_enter Tryz.func226,Tryz.ntmps226;go_wp2_with fail;refine(a5Y B p 1 g xs _ h (by omega) c).mono ?_;rintro e w' ⟨rfl,a⟩;go_wp2_with fail;refine Aj (CF rfl _ _ _) rfl ?_;exact⟨rfl,a⟩
theorem a5J(B p:Nat)(g:Option Nat)(xs:List UInt8)(a:Option Addr)(b cap:Nat)(ys:List UInt8)(w:World)(h:Wr w B p g xs)(n:Bs w a b cap ys)(m:xs.length+b<=big):
  Calls Tryz.prog 72 #[.pointer (some ⟨p,0,none⟩),.slice a b cap] w fun e w'=>e= .returned (.tuple #[])/\WPost w B p g (xs ++ys) w':=by
 have f:=h.lt;have r:=h;obtain⟨t,v,hv,d,rfl,c⟩:=h;have z:=cell_of_one hv;have x:=free_of_one hv;go_enter Tryz.func72,Tryz.ntmps72;go_wp2_with (at_builtin;refine a1x rfl _ _ rfl B v xs rfl d a b cap ys rfl n m (by omega) ?_);intro u y k i h3;have q:=(World.grownBy.cell_far i ⟨p,0,none⟩ f (Ne.symm c))
 have o:=(World.grownBy.frozen_far i ⟨p,0,none⟩ f (Ne.symm c))
 have l:=WPost.store r hv rfl (Ab _ _) k i h3;obtain⟨s,j,rfl,_⟩:=k.bs;rw[Af] at l;go_wp2_with fail;go_end0;exact⟨rfl,l⟩
def a0j(ys:List UInt8):List UInt8:=be (min ys.length 65535) 2 ++ys.take 65535
theorem Chg.bs0{S:Nat->Prop}{w w':World}(h:Chg S w w'){a:Option Addr}{b cap:Nat}{xs:List UInt8}(c:Bs w a b cap xs)(f:0<b->∀e,a=some e->¬S e.block):Bs w' a b cap xs:=by
 rcases BS b with d | d
 ·subst d;exact⟨c.1,c.2.1,c.2.2.1,.inl rfl⟩
 ·exact h.bs c (f d)
theorem Wr.apart{w wr:World}{p q:Nat}{g:Option Nat}{xs ys:List UInt8}{a:Option Addr}{c cap:Nat}(h:Wr wr p q g xs)(f:Bs w a c cap ys)(j:w.heap.size<=p):
  0<c->∀ad,a=some ad->¬WS q g ad.block:=by
 intro i ad d hk;rcases f.2.2.2 with e | ⟨b,off,e,k,_⟩
 ·omega
 ·rw[d] at e;cases e;rcases hk with hk | hk
  ·have:=h.base;simp only at hk;omega
  ·subst hk;have:=h.row_lt.2;simp only at this;omega
theorem a47(B p:Nat)(g:Option Nat)(xs:List UInt8)(a:Option Addr)(b cap:Nat)(ys:List UInt8)(w:World)(h:Wr w B p g xs)(c:Bs w a b cap ys)(d:0<b->∀n,a=some n->¬WS p g n.block)(s:xs.length+65545<=big):
  Calls Tryz.prog 98 #[.pointer (some ⟨p,0,none⟩),.slice a b cap] w fun e w'=>e= .returned (.tuple #[])/\WPost w B p g (xs ++a0j ys) w':=by
 have o:=c.2.1;by_cases q:65535<b
 ·have l:=c.take (k:=65535) (by omega);have HB:=qh (show a0j ys=be 65535 2 ++ys.take 65535 by rw[a0j,Nat.min_eq_right (by have:=c.1;omega)]);go_enter Tryz.func98,Tryz.ntmps98;go_wp2_with fail;refine(a3U B p 65535 g xs _ h (by omega) (by omega)).mono ?_;rintro e r ⟨rfl,g1,m,i,h3⟩;go_wp2_with fail;refine(a5J B p g1 _ a 65535 cap _ _ m (i.bs l (d (by omega))) (by simp[a0d];omega)).mono ?_;rintro e w2 ⟨rfl,j⟩;go_wp2_with fail;go_end0;exact⟨rfl,by rw[HB.out,<-List.append_assoc];exact WPost.trans i h3 j⟩
 ·have f:=c.1;have HB:=qh (show a0j ys=be b 2 ++ys by rw[a0j,Nat.min_eq_left (by omega),f,Am (by omega)]);clear f;go_enter Tryz.func98,Tryz.ntmps98;go_wp2_with fail;refine(a3U B p b g xs _ h (by omega) (by omega)).mono ?_;rintro e r ⟨rfl,g1,m,i,h3⟩;go_wp2_with fail;refine(a5J B p g1 _ a b cap _ _ m (i.bs0 c d) (by simp[a0d];omega)).mono ?_;rintro e w2 ⟨rfl,j⟩;go_wp2_with fail;go_end0;exact⟨rfl,by rw[HB.out,<-List.append_assoc];exact WPost.trans i h3 j⟩
theorem a4u(B p:Nat)(g:Option Nat)(xs:List UInt8)(w:World)(h:Wr w B p g xs)(f:xs.length<=big):
  Calls Tryz.prog 74 #[.pointer (some ⟨p,0,none⟩)] w fun e w'=>∃v,e= .returned v/\Own w' w.heap.size v xs/\Below w.heap.size w w':=by
 obtain⟨l,v,hv,b,rfl,d⟩:=h;have k:=cell_of_one hv;obtain⟨a,cap,rfl,i⟩:=b.bs;go_enter Tryz.func74,Tryz.ntmps74;go_wp2_with fail;refine(a0V a _ cap xs _ i f).mono ?_;rintro e w' ⟨v,rfl,j,c⟩;go_wp2_with fail;go_ret;exact⟨_,rfl,j,c⟩
theorem a2k(w:World):
  Calls Tryz.prog 70 #[] w fun e w'=>e= .returned (.pointer (some ⟨w.heap.size,0,none⟩))/\Wr w' w.heap.size w.heap.size none []/\Below w.heap.size w w':=by
 go_enter Tryz.func70,Tryz.ntmps70;go_wp2_with fail;go_ret;exact⟨rfl,⟨Aa _,.slice none 0 0,Ae w _,Own.nil _ _,rfl,by simp⟩,(Ab _ _).alloc (Aa _) _⟩
theorem b5P(y:UInt8)(ys:List UInt8):num (y :: ys)=y.toNat * 256 ^ ys.length+num ys:=by
 have:∀(n:Nat) (ys:List UInt8),ys.foldl (fun n c=>n * 256+c.toNat) n=n * 256 ^ ys.length+ys.foldl (fun n c=>n * 256+c.toNat) 0:=by
  intro n ys
  induction ys generalizing n with
  | nil=>simp
  | cons z b a=>
   rw[List.foldl_cons,a,List.foldl_cons,a (0 * 256+z.toNat),AA,Nat.pow_succ];rw[show 0 * 256+z.toNat=z.toNat by omega,Nat.add_mul,Nat.mul_assoc,Cy 256];omega
 rw[num,List.foldl_cons,this];simp[num]
theorem b3M(n k:Nat):num (be n k)=n % 256 ^ k:=by
 induction k with
 | zero=>simp [be,num,Nat.mod_one]
 | succ k a=>
  have h:n % 256 ^ (k+1)=n % 256 ^ k+256 ^ k * (n / 256 ^ k % 256):=by rw[Nat.pow_succ,Nat.mod_mul]
  rw[be,b5P,a,a0d,UInt8.toNat_ofNat',h,show (2:Nat) ^ 8=256 from rfl,Cy,Nat.add_comm]
theorem a1F(xs ys:List UInt8)(n:Int)(h:n=xs.length):a08 (xs ++ys,0) n=(xs,(ys,0)):=by
 subst h;unfold a08;simp only;rw[Ag (by simp),Ag (by simp;omega)];by_cases a:((xs.length:Nat):Int)<1
 ·rw[Ah a];obtain rfl:xs=[]:=by apply Bw;omega
  rfl
 ·rw[Ag a];simp
theorem a4I(n:Nat)(ys:List UInt8):a1l (be n 1 ++ys,0)=(n % 256,(ys,0)):=by
 unfold a1l;rw[a1F _ _ _ (by rw[a0d];rfl),b3M]
theorem a1T(n:Nat)(ys:List UInt8):a0o (be n 2 ++ys,0)=(n % 65536,(ys,0)):=by
 unfold a0o;rw[a1F _ _ _ (by rw[a0d];rfl),b3M]
theorem a3M(n:Nat)(ys:List UInt8)(h:n<18446744073709551616):a2n (be n 8 ++ys,0)=(n,(ys,0)):=by
 unfold a2n;rw[a1F _ _ _ (by rw[a0d];rfl),b3M,AN (by omega)]
theorem b3w(y:UInt8)(ys:List UInt8):a08 (y :: ys,0) 1=([y],(ys,0)):=a1F [y] ys 1 rfl
theorem b3x(b:Bool)(ys:List UInt8):a4H (fb b :: ys,0)=(b,(ys,0)):=by
 unfold a4H a1l;rw[b3w];cases b <;>rfl
theorem a6h(xs ys:List UInt8)(h:xs.length<=65535):a5c (be xs.length 2 ++xs ++ys,0)=(xs,(ys,0)):=by
 unfold a5c;rw[List.append_assoc,a1T,AN (by omega)];exact a1F _ _ _ rfl
theorem Ext.next{p q:Nat}{c:Option Nat}{w wr w':World}{s:List UInt8×Nat}(b:Ext p w wr)(a:RPost wr p q c s w'):Ext p w w'/\Rd w' p q c s.1 s.2:=
 ⟨b.to (a.2.below b.2 (fun _ _ hk=>by subst hk;exact a.1.1)),a.1⟩
end
section
open Go.RowKit
theorem a0S(w:World)(o:Obj):w.heap.size<(w.alloc o).heap.size:=by simp
theorem a07(w:World)(a:Array Value)(t:TypeId)(i:Nat):(w.alloc (.cells a t)).cell? ⟨w.heap.size,i,none⟩=a[i]?:=by
 simp only[World.cell?,Ae w];rfl
theorem a0l{w b:World}{a:Array Value}{t:TypeId}(c:Below (w.alloc (.cells a t)).heap.size (w.alloc (.cells a t)) b)(i:Nat):b.cell? ⟨w.heap.size,i,none⟩=a[i]? :=
 (c.cell (p:=⟨w.heap.size,i,none⟩) (a0S _ _)).trans (a07 w a t i)
theorem a4b(w:World)(a:Array Value)(t:TypeId)(i:Nat):(w.alloc (.cells a t)).frozen? ⟨w.heap.size,i,none⟩=false:=by
 simp only[World.frozen?,Ae w];simp
theorem Ext.frz{w W:World}{p b o:Nat}{v:Bool}(h:Ext p w W)(a:b<p)(c:w.frozen? ⟨b,o,none⟩=v):W.frozen? ⟨b,o,none⟩=v:=(h.1.frozen (p:=⟨b,o,none⟩) a).trans c
theorem Ext.cel{w W:World}{p b o:Nat}{v:Option Value}(h:Ext p w W)(a:b<p)(c:w.cell? ⟨b,o,none⟩=v):W.cell? ⟨b,o,none⟩=v:=(h.1.cell (p:=⟨b,o,none⟩) a).trans c
def WI(w:World)(p q:Nat)(W:World)(L:List UInt8):Prop:=Ext p w W/\∃g,Wr W p q g L
def RI(w:World)(p q:Nat)(rb:Option Nat)(W:World)(L:List UInt8):Prop:=Ext p w W/\Rd W p q rb L 0/\L.length<=big
theorem WI.cell{w W:World}{p q:Nat}{L:List UInt8}(h:WI w p q W L){b o:Nat}{v:Value}(a:b<p)(c:w.cell? ⟨b,o,none⟩=some v):W.cell? ⟨b,o,none⟩=some v:=
 (h.1.1.cell (p:=⟨b,o,none⟩) a).trans c
theorem Ext.bs{w W:World}{p:Nat}(h:Ext p w W)(d:w.heap.size=p){a:Option Addr}{b cap:Nat}{ys:List UInt8}(c:Bs w a b cap ys):Bs W a b cap ys:=by
 subst d;exact c.below h.1
theorem WI.drew{w W:World}{p q:Nat}{L:List UInt8}(h:WI w p q W L):WI w p q W.drew L:=
 ⟨h.1.drew,let ⟨g,hg⟩:=h.2;⟨g,hg.below (Ab _ _).drew⟩⟩
theorem WI.post{w W w':World}{p q:Nat}{g:Option Nat}{L L':List UInt8}(h:Ext p w W)(d:Wr W p q g L)(a:WPost W p q g L' w'):WI w p q w' L':=by
 obtain⟨g2,c,b,h3⟩:=a;exact⟨h.to (d.belowOf b),g2,c⟩
variable {w W : World} {p q : Nat} {rb : Option Nat} {L : List UInt8}
theorem a4v(n:Nat)(h:WI w p q W L)(b:n<=9223372036854775807)(c:L.length+8<=big):
  Calls Tryz.prog 97 #[.pointer (some ⟨q,0,none⟩),.int .i64 (n:Int)] W fun e w'=>e= .returned (.tuple #[])/\WI w p q w' (L ++be n 1):=by
 obtain⟨d,g,a⟩:=h;have f:be n 1=[UInt8.ofNat n]:=by simp[be]
 rw[f];exact(a5Y p q n g L W a b c).mono fun e w' ⟨i,j⟩=>⟨i,WI.post d a j⟩
theorem a0H(n:Nat)(h:WI w p q W L)(b:n<=9223372036854775807)(c:L.length+8<=big):
  Calls Tryz.prog 99 #[.pointer (some ⟨q,0,none⟩),.int .i64 (n:Int)] W fun e w'=>e= .returned (.tuple #[])/\WI w p q w' (L ++be n 2):=by
 obtain⟨d,g,a⟩:=h;exact(a3U p q n g L W a b c).mono fun e w' ⟨f,i⟩=>⟨f,WI.post d a i⟩
theorem a18(n:Nat)(h:WI w p q W L)(b:L.length+8<=big):
  Calls Tryz.prog 71 #[.pointer (some ⟨q,0,none⟩),.int .u64 (n:Int)] W fun e w'=>e= .returned (.tuple #[])/\WI w p q w' (L ++be n 8):=by
 obtain⟨c,g,a⟩:=h;exact(a8D p q n g L W a b).mono fun e w' ⟨d,f⟩=>⟨d,WI.post c a f⟩
theorem b46(b:Bool)(h:WI w p q W L)(c:L.length+8<=big):
  Calls Tryz.prog 226 #[.pointer (some ⟨q,0,none⟩),.bool b] W fun e w'=>e= .returned (.tuple #[])/\WI w p q w' (L ++[fb b]):=by
 obtain⟨d,g,a⟩:=h;exact(b2K p q b g L W a c).mono fun e w' ⟨f,i⟩=>⟨f,WI.post d a i⟩
theorem a5X{a:Option Addr}{b cap:Nat}{ys:List UInt8}(h:WI w p q W L)(l:w.heap.size=p)(d:Bs w a b cap ys)(i:L.length+65545<=big):
  Calls Tryz.prog 98 #[.pointer (some ⟨q,0,none⟩),.slice a b cap] W fun e w'=>e= .returned (.tuple #[])/\WI w p q w' (L ++a0j ys):=by
 obtain⟨f,g,c⟩:=h;exact(a47 p q g L a b cap ys W c (f.bs l d) (c.apart d (by omega)) i).mono fun e w' ⟨j,k⟩=>⟨j,WI.post f c k⟩
theorem a4D{w':World}{s:List UInt8×Nat}{L':List UInt8}(h:RI w p q rb W L)(b:RPost W p q rb s w')(c:s=(L',0))(a:L'.length<=L.length):RI w p q rb w' L':=by
 subst c;have:=h.1.next b
 exact⟨this.1,this.2,Ad a h.2.2⟩
theorem b8V(n:Nat)(h:RI w p q rb W (be n 1 ++L))(a:n<256):
  Calls Tryz.prog 278 #[.pointer (some ⟨q,0,none⟩)] W fun e w'=>e= .returned (.int .i64 (n:Int))/\RI w p q rb w' L:=by
 refine(a3N p q rb (be n 1 ++L,0) W h.2.1 h.2.2).mono ?_;rw[a4I,AN a];exact fun e w' ⟨b,c⟩=>⟨b,a4D h c rfl (by simp)⟩
theorem b3o(n:Nat)(h:RI w p q rb W (be n 2 ++L))(a:n<65536):
  Calls Tryz.prog 54 #[.pointer (some ⟨q,0,none⟩)] W fun e w'=>e= .returned (.int .i64 (n:Int))/\RI w p q rb w' L:=by
 refine(a1S p q rb (be n 2 ++L,0) W h.2.1 h.2.2).mono ?_;rw[a1T,AN a];exact fun e w' ⟨b,c⟩=>⟨b,a4D h c rfl (by simp)⟩
theorem b0X(n:Nat)(h:RI w p q rb W (be n 8 ++L))(a:n<18446744073709551616):
  Calls Tryz.prog 180 #[.pointer (some ⟨q,0,none⟩)] W fun e w'=>e= .returned (.int .u64 (n:Int))/\RI w p q rb w' L:=by
 refine(a3L p q rb (be n 8 ++L,0) W h.2.1 h.2.2).mono ?_;rw[a3M _ _ a];exact fun e w' ⟨b,c⟩=>⟨b,a4D h c rfl (by simp)⟩
theorem WI.below{w W W':World}{p q:Nat}{L:List UInt8}(h:WI w p q W L)(a:Below W.heap.size W W'):WI w p q W' L:=
 ⟨h.1.step a,let ⟨g,hg⟩:=h.2;⟨g,hg.below a⟩⟩
theorem a1E{w W:World}{p q:Nat}{L:List UInt8}{a:Option Addr}{b cap:Nat}{ys:List UInt8}(h:WI w p q W L)(d:Bs W a b cap ys)(f:L.length+b<=big):
  Calls Tryz.prog 72 #[.pointer (some ⟨q,0,none⟩),.slice a b cap] W fun e w'=>e= .returned (.tuple #[])/\WI w p q w' (L ++ys):=by
 obtain⟨i,g,c⟩:=h;exact(a5J p q g L a b cap ys W c d f).mono fun e w' ⟨j,k⟩=>⟨j,WI.post i c k⟩
theorem a10{w W:World}{p q:Nat}{L:List UInt8}(h:WI w p q W L)(d:L.length<=big):
  Calls Tryz.prog 74 #[.pointer (some ⟨q,0,none⟩)] W fun e w'=>∃a cap,e= .returned (.slice a L.length cap)/\Own w' W.heap.size (.slice a L.length cap) L/\Bs w' a L.length cap L/\WI w p q w' L:=by
 obtain⟨f,g,b⟩:=h;refine(a4u p q g L W b d).mono fun e w' ⟨v,i,c,h3⟩=>?_
 obtain⟨a,cap,rfl,j⟩:=c.bs;exact⟨a,cap,i,c,j,f.step h3,g,b.below h3⟩
end
section
open Go.RowKit
structure Nd where
 id:Int
 kind:Int
 links:Int
 size:Int
 til:Nat
 closed:Bool
def Nd.cells(n:Nd):Array Value:=#[.int .i64 n.id,.int .i64 n.kind,.int .i64 n.links,.int .i64 n.size,.int .u64 (n.til:Int),.bool n.closed]
def Nd.Ok(n:Nd):Prop:=0<=n.id/\n.id<=65535/\0<=n.links/\n.links<=65535/\
 ((n.kind=1/\0<=n.size/\n.size<=4096/\n.til<=1099511627776)∨(n.kind=2/\n.size=0/\n.til=0/\n.closed=true))
instance (n:Nd):Decidable n.Ok:=by unfold Nd.Ok;infer_instance
theorem a7p(n:Nd)(w:World):Calls Tryz.prog 225 #[.agg n.cells] w fun e w'=>e= .returned (.bool (decide n.Ok))/\Below w.heap.size w w':=by
 obtain⟨id,d,b,size,til,a⟩:=n;generalize c:decide (Nd.Ok ⟨id,d,b,size,til,a⟩)=g;have f:=qh c;clear c;unfold Nd.cells;simp only;go_enter Tryz.func225,Tryz.ntmps225;go_wp2;all_goals go_ret
 all_goals refine⟨a2A ?_,((Ext.refl w).alloc _).1⟩
 all_goals rw[<-f.out,Bl]
 all_goals rw[Cm (p:=Nd.Ok _)]
 all_goals simp only[Nd.Ok,decide_eq_true_eq,AV,false_iff]
 all_goals (first | omega | (simp_all;done) | (simp_all;omega) | go_goals)
def Nd.bytes(n:Nd):List UInt8:=be n.id.toNat 2 ++(be n.kind.toNat 1 ++(be n.links.toNat 2 ++(be n.size.toNat 2 ++(be n.til 8 ++[fb n.closed]))))
theorem Nd.bytes_length(n:Nd):n.bytes.length=16:=by simp[Nd.bytes,a0d]
def a7q(xs:List UInt8):Nd×Nat:=
 (⟨(a0o (xs,0)).1,(a1l (a0o (xs,0)).2).1,(a0o (a1l (a0o (xs,0)).2).2).1,(a0o (a0o (a1l (a0o (xs,0)).2).2).2).1,
  (a2n (a0o (a0o (a1l (a0o (xs,0)).2).2).2).2).1,(a4H (a2n (a0o (a0o (a1l (a0o (xs,0)).2).2).2).2).2).1⟩,
  rdEnd (a4H (a2n (a0o (a0o (a1l (a0o (xs,0)).2).2).2).2).2).2)
def b3R(xs:List UInt8):Option Nd:=if (a7q xs).2=0/\(a7q xs).1.Ok then some (a7q xs).1 else none
def a0z:Nd:=⟨0,0,0,0,0,false⟩
theorem b7B(n:Nd)(w:World)(h:n.Ok):Calls Tryz.prog 144 #[.agg n.cells] w fun e w'=>∃v,e= .returned (.tuple #[v,.int .i64 0])/\Own w' w.heap.size v n.bytes/\Below w.heap.size w w':=by
 have z:=qh (a7p n (w.alloc (.cells n.cells 39)));rw[AB h] at z;obtain⟨id,f,c,size,til,b⟩:=n;obtain⟨O,S,h3,Q,J⟩:=h;simp only at O S h3 Q J;obtain⟨i,rfl⟩:∃i:Nat,id=(i:Int):=⟨id.toNat,by omega⟩
 obtain⟨k,rfl⟩:∃i:Nat,f=(i:Int):=⟨f.toNat,by omega⟩
 obtain⟨l,rfl⟩:∃i:Nat,c=(i:Int):=⟨c.toNat,by omega⟩
 obtain⟨s,rfl⟩:∃i:Nat,size=(i:Int):=⟨size.toNat,by omega⟩
 have hk:k<=2:=by omega
 have hs:s<=4096:=by omega
 clear J;unfold Nd.cells at *;simp only at *;go_enter Tryz.func144,Tryz.ntmps144;go_wp2_with fail;refine z.out.mono ?_;rintro e w1 ⟨rfl,d⟩;have m:=((Ext.refl w).alloc _).step d;have a:w.heap.size<w1.heap.size:=Ai (a0S _ _) d.size;have F:w1.cell? ⟨w.heap.size,0,none⟩=some (.int .i64 (i:Int)):=a0l d 0;have I:w1.cell? ⟨w.heap.size,1,none⟩=some (.int .i64 (k:Int)):=a0l d 1;have L:w1.cell? ⟨w.heap.size,2,none⟩=some (.int .i64 (l:Int)):=a0l d 2;have M:w1.cell? ⟨w.heap.size,3,none⟩=some (.int .i64 (s:Int)):=a0l d 3;have G:w1.cell? ⟨w.heap.size,4,none⟩=some (.int .u64 (til:Int)):=a0l d 4;have K:w1.cell? ⟨w.heap.size,5,none⟩=some (.bool b):=a0l d 5;clear d z;obtain⟨H,A⟩:=qnm w.heap.size;rw[<-A] at m a F I L M G K⊢;have V:=qh A;clear A;go_wp2_with fail;refine(a2k _).mono ?_;rintro e w2 ⟨rfl,x,hb1⟩;have u:WI w1 w1.heap.size w1.heap.size w2 []:=⟨(Ext.refl w1).step hb1,none,x⟩
 generalize w1.heap.size=q at *;clear x hb1;have X:=u.cell a F;go_wp2_with fail;refine(a0H i u (by omega) (by unfold big;decide)).mono ?_;rintro e w3 ⟨rfl,t⟩;have R:=t.cell a I;clear X u;go_wp2_with fail;refine(a4v k t (by omega) (by simp[a0d];unfold big;decide)).mono ?_;rintro e w4 ⟨rfl,r⟩;have P:=r.cell a L;clear R t;go_wp2_with fail;refine(a0H l r (by omega) (by simp[a0d];unfold big;decide)).mono ?_;rintro e w5 ⟨rfl,o⟩;have N:=o.cell a M;clear P r;go_wp2_with fail;refine(a0H s o (by omega) (by simp[a0d];unfold big;decide)).mono ?_;rintro e w6 ⟨rfl,j⟩;have T:=j.cell a G;clear N o;go_wp2_with fail;refine(a18 til j (by simp[a0d];unfold big;decide)).mono ?_;rintro e Y ⟨rfl,p⟩;have W:=p.cell a K;clear T j;go_wp2_with fail;refine(b46 b p (by simp[a0d];unfold big;decide)).mono ?_;rintro e w8 ⟨rfl,E⟩;clear W p;obtain⟨y,g,D⟩:=E;go_wp2_with fail;refine(a4u q q g _ _ D (by simp[a0d];unfold big;decide)).mono ?_;rintro e Z ⟨v,rfl,U,C⟩;go_wp2_with fail;go_ret2;have B:=(m.to (y.1.mono (Bt a))).step C;rw[<-V.out];exact⟨v,rfl,(by simpa[Nd.bytes] using U.base (m.to (y.1.mono (Bt a))).2),B.1⟩
def b62(o:Option Nd):Value:=.tuple #[.agg (o.getD a0z).cells,.int .i64 (if o.isSome then 0 else 12)]
theorem b5W(a:Option Addr)(n cap:Nat)(xs:List UInt8)(w:World)(h:Bs w a n cap xs)(hl:n<=big):
  Calls Tryz.prog 344 #[.slice a n cap] w fun e w'=>e= .returned (b62 (b3R xs))/\Below w.heap.size w w':=by
 have ag:=h.1;obtain⟨o,u⟩:=qnm (b3R xs);have z:=qh u;rw[<-u];clear u;unfold b3R a7q at z;go_enter Tryz.func344,Tryz.ntmps344;go_wp2_with fail;have A:=(Ext.refl w).alloc (.cells #[.int .i64 0,.int .i64 0,.int .i64 0,.int .i64 0,.int .u64 0,.bool false] 39);have h':=h.alloc (.cells #[.int .i64 0,.int .i64 0,.int .i64 0,.int .i64 0,.int .u64 0,.bool false] 39);have b:=a0S w (.cells #[.int .i64 0,.int .i64 0,.int .i64 0,.int .i64 0,.int .u64 0,.bool false] 39);have C:=a07 w #[.int .i64 0,.int .i64 0,.int .i64 0,.int .i64 0,.int .u64 0,.bool false] 39;have F:=a4b w #[.int .i64 0,.int .i64 0,.int .i64 0,.int .i64 0,.int .u64 0,.bool false] 39;have C0:=C 0;have C1:=C 1;have C2:=C 2;have C3:=C 3;have C4:=C 4;have C5:=C 5;simp only[qge] at C0 C1 C2 C3 C4 C5;have F0:=F 0;have F1:=F 1;have F2:=F 2;have F3:=F 3;have F4:=F 4;have F5:=F 5;clear C F h;generalize w.alloc (.cells #[.int .i64 0,.int .i64 0,.int .i64 0,.int .i64 0,.int .u64 0,.bool false] 39)=w0 at *;obtain⟨H,hH⟩:=qnm w.heap.size;rw[<-hH] at A b C0 C1 C2 C3 C4 C5 F0 F1 F2 F3 F4 F5⊢;have HH:=qh hH;clear hH;refine(a78 a n cap xs _ h' hl).mono ?_;rintro e w1 ⟨q,x,rfl,hR,hb1⟩;have B:=(Ext.refl w0).step hb1;have HC:=qh (aI C0 (aI C1 (aI C2 (aI C3 (aI C4 C5)))));have HF:=qh (aI F0 (aI F1 (aI F2 (aI F3 (aI F4 F5)))));obtain⟨p,hp⟩:=qnm w0.heap.size;rw[<-hp] at hR B b;clear h' hb1 C0 C1 C2 C3 C4 C5 F0 F1 F2 F3 F4 F5 hp;have hb0:xs.length<=big:=by omega
 clear hl ag;have l1:(a0o (xs,0)).2.1.length<=big:=Ad (a0P (xs,0) 2) hb0;have ak:=a3g (xs,0);have a2:=qh (a1S p q x (xs,0) w1 hR hb0);generalize(a0o (xs,0)).1=K at *;generalize(a0o (xs,0)).2=Q at *;have l2:(a1l Q).2.1.length<=big:=Ad (a0P Q 1) l1;have am:=a6i Q;have Z:=qh (fun w h=>a3N p q x Q w h l1);generalize(a1l Q).1=R at *;generalize(a1l Q).2=P at *;have l3:(a0o P).2.1.length<=big:=Ad (a0P P 2) l2;have aj:=a3g P;have X:=qh (fun w h=>a1S p q x P w h l2);generalize(a0o P).1=J at *;generalize(a0o P).2=O at *;have l4:(a0o O).2.1.length<=big:=Ad (a0P O 2) l3;have ai:=a3g O;have Y:=qh (fun w h=>a1S p q x O w h l3);generalize(a0o O).1=I at *;generalize(a0o O).2=D at *;have l5:(a2n D).2.1.length<=big:=Ad (a0P D 8) l4;have al:=a8Z D;have ab:=qh (fun w h=>a3L p q x D w h l4);generalize(a2n D).1=S at *;generalize(a2n D).2=s5 at *;have a8:=qh (fun w h=>b3s p q x s5 w h l5);generalize(a4H s5).1=E at *;generalize(a4H s5).2=s6 at *;clear l1 l2 l3 l4 l5 hb0;go_wp2_with fail;refine a2.out.mono ?_;rintro e w2 ⟨rfl,f⟩;obtain⟨a9,aa⟩:=B.next f
 clear f B hR;go_wp2_with fail;refine(Z.out _ aa).mono ?_;rintro e w3 ⟨rfl,f⟩;obtain⟨a7,ad⟩:=a9.next f
 clear f a9 aa;go_wp2_with fail;refine(X.out _ ad).mono ?_;rintro e w4 ⟨rfl,f⟩;obtain⟨a5,W⟩:=a7.next f
 clear f a7 ad;go_wp2_with fail;refine(Y.out _ W).mono ?_;rintro e w5 ⟨rfl,f⟩;obtain⟨a0,a6⟩:=a5.next f
 clear f a5 W;go_wp2_with fail;refine(ab.out _ a6).mono ?_;rintro e w6 ⟨rfl,f⟩;obtain⟨a4,ac⟩:=a0.next f
 clear f a0 a6;go_wp2_with fail;refine(a8.out _ ac).mono ?_;rintro e w7 ⟨rfl,f⟩;obtain⟨c,af⟩:=a4.next f
 clear f a4 ac a2 Z X Y ab a8;obtain⟨j,t,m,l,s,r⟩:=HC.out;obtain⟨V,M,U,T,N,L⟩:=HF.out;have j:=c.cel b j;have t:=c.cel b t;have m:=c.cel b m;have l:=c.cel b l;have s:=c.cel b s;have r:=c.cel b r;have V:=c.frz b V;have M:=c.frz b M;have U:=c.frz b U;have T:=c.frz b T;have N:=c.frz b N;have L:=c.frz b L;go_wp2_with fail;have a1:H<w7.heap.size:=Ai b c.2;have HR:=qh (a7p ⟨K,R,J,I,S,E⟩ (w7.alloc (.cells #[.int .i64 (K:Int),.int .i64 (R:Int),.int .i64 (J:Int),.int .i64 (I:Int),.int .u64 (S:Int),.bool E] 39)));unfold Nd.cells at HR;simp only at HR;refine(b0Y p q x s6 _ (af.below ((Ab _ _).alloc (Aa _) _))).mono ?_;rintro e w8 ⟨rfl,rfl⟩;generalize rdEnd s6=en at *;have a3:=(A.to (c.1.mono (Bt b))).alloc (.cells #[.int .i64 (K:Int),.int .i64 (R:Int),.int .i64 (J:Int),.int .i64 (I:Int),.int .u64 (S:Int),.bool E] 39);by_cases y:en=0
 ·subst y;go_wp2_with fail;refine HR.out.mono ?_;rintro e w8 ⟨rfl,k⟩;have d:=(c.alloc _).step k;have d0:=a0l k 0;have d1:=a0l k 1;have d2:=a0l k 2;have d3:=a0l k 3;have d4:=a0l k 4;have d5:=a0l k 5;clear j t m l s r V M U T N L;obtain⟨j,t,m,l,s,r⟩:=HC.out;obtain⟨V,M,U,T,N,L⟩:=HF.out;have j:=d.cel b j;have t:=d.cel b t;have m:=d.cel b m;have l:=d.cel b l;have s:=d.cel b s;have r:=d.cel b r;have V:=d.frz b V;have M:=d.frz b M;have U:=d.frz b U;have T:=d.frz b T;have N:=d.frz b N;have L:=d.frz b L;generalize w7.heap.size=G at *;by_cases g:Nd.Ok ⟨K,R,J,I,S,E⟩
  ·have u:o=some ⟨K,R,J,I,S,E⟩:=by rw[z.out,Ah ⟨trivial,g⟩]
   have i:=AB g;subst u;rw[i];clear z g i;go_wp2_with fail;refine Aj (v:=b62 (some ⟨K,R,J,I,S,E⟩)) (by simp[results,Tryz.results344,go_sem,b62,Nd.cells,j,t,m,l,s,r]) rfl ⟨rfl,?_⟩;rw[<-HH.out];exact((((((((a3.step k).setCell (Aa _) _).setCell (Aa _) _).setCell (Aa _) _).setCell (Aa _) _).setCell (Aa _) _).setCell (Aa _) _)).1
  ·have u:o=none:=by rw[z.out,Ag (fun h=>g h.2)]
   have i:=Aq g;subst u;rw[i];clear z g i;go_wp2_with fail;refine Aj (v:=b62 none) (by simp[results,Tryz.results344,go_sem,b62,Nd.cells,a0z,j,t,m,l,s,r]) rfl ⟨rfl,?_⟩;rw[<-HH.out];exact((((((((a3.step k).setCell (Aa _) _).setCell (Aa _) _).setCell (Aa _) _).setCell (Aa _) _).setCell (Aa _) _).setCell (Aa _) _)).1
 ·have ah:((en:Int) != 0)=true:=by rw[BG];omega
  have u:o=none:=by rw[z.out,Ag (fun h=>y h.1)]
  subst u;clear z y;go_wp2_with fail;refine Aj (v:=b62 none) (by simp[results,Tryz.results344,go_sem,b62,Nd.cells,a0z,j,t,m,l,s,r,a1]) rfl ⟨rfl,?_⟩;rw[<-HH.out];have ae:=A.to (c.1.mono (Bt b));exact(((((((ae.setCell (Aa _) _).setCell (Aa _) _).setCell (Aa _) _).setCell (Aa _) _).setCell (Aa _) _).setCell (Aa _) _).alloc _).1
theorem b0p(n:Nd)(h:n.Ok)(b:n.til<18446744073709551616):b3R n.bytes=some n:=by
 have j:a7q n.bytes=(n,0):=by
  obtain⟨id,kind,links,size,til,a⟩:=n;obtain⟨l,k,h3,d,i⟩:=h;simp only at l k h3 d i b;have m:(be til 8 ++[fb a])=be til 8 ++([fb a] ++[]):=by simp
  unfold a7q Nd.bytes;simp only;rw[a1T,AN (by omega)];simp only;rw[a4I,AN (by omega)];simp only;rw[a1T,AN (by omega)];simp only;rw[a1T,AN (by omega)];simp only;rw[a3M _ _ b];simp only;rw[b3x];have e:((id.toNat:Nat):Int)=id:=by omega
  have c:((kind.toNat:Nat):Int)=kind:=by omega
  have f:((links.toNat:Nat):Int)=links:=by omega
  have g:((size.toNat:Nat):Int)=size:=by omega
  rw[e,c,f,g];rfl
 unfold b3R;rw[j,Ah ⟨rfl,h⟩]
structure Ask where
 path:Bool:=false
 «to» :Bool:=false
 fd:Bool:=false
 part:Bool:=false
 til:Bool:=false
 snap:Bool:=false
 data:Bool:=false
def a2y:Int->Option Ask
 | 1=>some { path:=true }
 | 2=>some { path:=true }
 | 3=>some { path:=true,snap:=true }
 | 4=>some { fd:=true,part:=true }
 | 5=>some { fd:=true,data:=true }
 | 6=>some { fd:=true,til:=true }
 | 7=>some { path:=true,«to»:=true }
 | 8=>some { path:=true }
 | 9=>some { path:=true }
 | 10=>some { path:=true,«to»:=true }
 | 11=>some { path:=true,snap:=true }
 | 12=>some { path:=true,snap:=true }
 | 13=>some { path:=true,til:=true }
 | 14=>some {}
 | 15=>some { snap:=true }
 | 16=>some { til:=true }
 | 17=>some {}
 | _=>none
structure Ov where
 kind:Int
 path:List UInt8
 «to» :List UInt8
 fd:Int
 at_:Int
 n:Int
 til:Nat
 snap:Int
 dat:List UInt8
def a56(n:Int):Bool:=decide (0<=n/\n<=65535)
def a4E(a:Ask)(p t d:Nat)(fd b n snap:Int):Nat:=
 if(a.path=true/\200<p)∨(a.to=true/\200<t)∨(a.data=true/\600<d) then 3
 else if(a.fd=true/\a56 fd=false)∨(a.part=true/\(a56 b=false∨a56 n=false))∨(a.snap=true/\a56 snap=false) then 1
 else 0
def Ov.right(o:Ov)(a:Ask):Nat:=a4E a o.path.length o.to.length o.dat.length o.fd o.at_ o.n o.snap
def Ov.tail(o:Ov)(a:Ask):List UInt8:=
 (if a.path then a0j o.path else[]) ++((if a.to then a0j o.to else[]) ++((if a.fd then be o.fd.toNat 2 else[]) ++
  ((if a.part then be o.at_.toNat 2 else[]) ++((if a.part then be o.n.toNat 2 else[]) ++((if a.til then be o.til 8 else[]) ++((if a.snap then be o.snap.toNat 2 else[]) ++(if a.data then a0j o.dat else[])))))))
def Ov.bytes(o:Ov)(a:Ask):List UInt8:=be o.kind.toNat 1 ++o.tail a
def opEnc(o:Ov):List UInt8×Nat:=
 match a2y o.kind with
 | none=>([],30)
 | some a=>if o.right a=0 then(o.bytes a,0) else([],o.right a)
theorem a3T{k:Int}{a:Ask}(h:a2y k=some a):1<=k/\k<=17:=by
 unfold a2y at h;split at h <;>first | (constructor <;>decide) | cases h
theorem b8I{k:Int}(h:¬(k<1∨17<k)):k=1∨k=2∨k=3∨k=4∨k=5∨k=6∨k=7∨k=8∨k=9∨k=10∨k=11∨k=12∨k=13∨k=14∨k=15∨k=16∨k=17:=by omega
theorem a30{n:Int}(h:a56 n=true):∃m:Nat,n=(m:Int)/\m<65536:=by
 unfold a56 at h;have:=BD h;exact⟨n.toNat,by omega,by omega⟩
theorem b4U{k:Int}{a:Ask}(h:a2y k=some a):a= { path:=true }∨a= { path:=true,snap:=true }∨a= { fd:=true,part:=true }∨a= { fd:=true,data:=true }∨a= { fd:=true,til:=true }∨
  a= { path:=true,«to»:=true }∨a= { path:=true,til:=true }∨a= {}∨a= { snap:=true }∨a= { til:=true }:=by
 unfold a2y at h;split at h <;>first | (cases h;simp;done) | cases h
def Ask.cells(a:Ask):Array Value:=#[.bool a.path,.bool a.to,.bool a.fd,.bool a.part,.bool a.til,.bool a.snap,.bool a.data]
theorem a9D(k:Int)(a:Ask)(h:a2y k=some a)(w:World):Calls Tryz.prog 95 #[.int .i64 k] w fun e w'=>e= .returned (.tuple #[.agg a.cells,.bool true])/\Below w.heap.size w w':=by
 have b:=a3T h;have hk:=b8I (k:=k) (by omega);clear b;rcases hk with rfl | rfl | rfl | rfl | rfl | rfl | rfl | rfl | rfl | rfl | rfl | rfl | rfl | rfl | rfl | rfl | rfl
 all_goals
  simp only[a2y,BZ] at h;subst h;go_enter Tryz.func95,Tryz.ntmps95;go_wp2_with fail;refine Aj (v:=.tuple #[.agg (Ask.cells _),.bool true]) (by simp[results,Tryz.results95,go_sem,Ask.cells]) rfl ⟨rfl,?_⟩;exact((Ext.refl w).alloc _).1
theorem b4V(k:Int)(h:a2y k=none)(w:World):Calls Tryz.prog 95 #[.int .i64 k] w fun e w'=>e= .returned (.tuple #[.agg ({}:Ask).cells,.bool false])/\Below w.heap.size w w':=by
 have g:k<1∨17<k:=by
  rcases(show(k<1∨17<k)∨(1<=k/\k<=17) by omega) with a | a
  ·exact a
  ·have hk:=b8I (k:=k) (by omega);rcases hk with rfl | rfl | rfl | rfl | rfl | rfl | rfl | rfl | rfl | rfl | rfl | rfl | rfl | rfl | rfl | rfl | rfl <;>cases h
 clear h;have a:(k == 1)=false:=by simp;omega
 have t:(k == 2)=false:=by simp;omega
 have h3:(k == 3)=false:=by simp;omega
 have n:(k == 4)=false:=by simp;omega
 have q:(k == 5)=false:=by simp;omega
 have r:(k == 6)=false:=by simp;omega
 have p:(k == 7)=false:=by simp;omega
 have o:(k == 8)=false:=by simp;omega
 have s:(k == 9)=false:=by simp;omega
 have d:(k == 10)=false:=by simp;omega
 have i:(k == 11)=false:=by simp;omega
 have j:(k == 12)=false:=by simp;omega
 have f:(k == 13)=false:=by simp;omega
 have c:(k == 14)=false:=by simp;omega
 have m:(k == 15)=false:=by simp;omega
 have b:(k == 16)=false:=by simp;omega
 have l:(k == 17)=false:=by simp;omega
 clear g;go_enter Tryz.func95,Tryz.ntmps95;go_wp2_with fail;refine Aj (v:=.tuple #[.agg (Ask.cells {}),.bool false]) (by simp[results,Tryz.results95,go_sem,Ask.cells]) rfl ⟨rfl,?_⟩;exact((Ext.refl w).alloc _).1
def a0b(k:Int)(ps d:ByteArray)(fd a n:Int)(til:Nat)(f:Int)(c:Option Addr)(e b:Nat):Array Value:=
 #[.int .i64 k,.string ps,.string d,.int .i64 fd,.int .i64 a,.int .i64 n,.int .u64 (til:Int),.int .i64 f,.slice c e b]
theorem a8W(k:Int)(ps d:ByteArray)(fd b n:Int)(til:Nat)(g:Int)(h:Option Addr)(f i:Nat)(a:Ask)(l:Int)(c:a2y l=some a)(w:World):
  Calls Tryz.prog 96 #[.agg (a0b k ps d fd b n til g h f i),.agg a.cells] w fun e w'=>e= .returned (.int .i64 (a4E a ps.size d.size f fd b n g:Nat))/\Below w.heap.size w w':=by
 have j:=b4U c;clear c;rcases j with rfl | rfl | rfl | rfl | rfl | rfl | rfl | rfl | rfl | rfl
 all_goals
  unfold a0b Ask.cells;go_enter Tryz.func96,Tryz.ntmps96;go_wp2;all_goals go_ret
  all_goals refine⟨a0F ?_,(((Ext.refl w).alloc _).alloc _).1⟩
  all_goals simp only[a4E,a56,AV,true_and,false_and,or_false,false_or,decide_eq_false_iff_not]
  all_goals (first | rfl | (repeat' split) <;>first | omega | rfl | (exfalso;omega) | (simp_all;done))
def a3C(w:World)(xs:List UInt8):Nat:=grownCap w xs.length 0 TB
def b2v(w:World)(xs:List UInt8):World:=
 w.drew.alloc (.cells (bytesRow (a0c xs) (a3C w xs)) TB ((bytesRow (a0c xs) (a3C w xs)).size,(bytesRow (a0c xs) (a3C w xs)).size+1))
theorem a4B(xs:List UInt8)(w:World):(convert 9 30 (.string (a0c xs))).run Tryz.prog w= .ok (.slice (some ⟨w.heap.size,0,none⟩) xs.length (a3C w xs)) (b2v w xs):=
 run_bytes_of_string w 9 30 TB (a0c xs) Tryz.underlying9 Tryz.underlying30 Tryz.underlying5
theorem a2R(w:World)(xs:List UInt8):Below w.heap.size w (b2v w xs):=((Ab _ _).drew).alloc (Aa _) _
theorem a5P(w:World)(xs:List UInt8)(h:xs.length<=maxLen):Bs (b2v w xs) (some ⟨w.heap.size,0,none⟩) xs.length (a3C w xs) xs:=by
 refine Bs.newRow w.drew _ _ _ _ _ _ rfl (grownCap_ge _ _ _ _) (grownCap_le_maxLen _ _ _ _ h) ?_;have e:(bytesRow (a0c xs) (a3C w xs)).toList=xs.map bv ++List.replicate (a3C w xs - xs.length) (.int .u8 0):=by
  unfold bytesRow a0c bv;simp[ByteArray.size]
 rw[e];exact Bk (by simp)
theorem a65{w W W':World}{p q:Nat}{L:List UInt8}{a cap:Nat}{ys:List UInt8}(h:WI w p q W L)(d:Below W.heap.size W W')(j:Bs W' (some ⟨W.heap.size,0,none⟩) a cap ys)(k:L.length+65545<=big):
  Calls Tryz.prog 98 #[.pointer (some ⟨q,0,none⟩),.slice (some ⟨W.heap.size,0,none⟩) a cap] W' fun e w'=>e= .returned (.tuple #[])/\WI w p q w' (L ++a0j ys):=by
 obtain⟨l,g,b⟩:=h;refine(a47 p q g L _ a cap ys W' (b.below d) j ?_ k).mono fun e w' ⟨f,i⟩=>⟨f,WI.post (l.step d) (b.below d) i⟩
 intro _ m c hk;cases c;rcases hk with hk | hk
 ·have f:=b.lt;have i:W.heap.size=q:=hk;omega
 ·subst hk;exact absurd b.row_lt.1 (Ch _)
end
end Go.Proofs.YtbemfdcjieakdaaGreatDoor
