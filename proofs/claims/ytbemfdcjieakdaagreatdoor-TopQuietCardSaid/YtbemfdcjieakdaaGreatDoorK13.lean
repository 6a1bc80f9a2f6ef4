/- RC; PtLaw; PtRoom; PtEnc. -/
import Derived.Test.YtbemfdcjieakdaaGreatDoorK12
set_option maxRecDepth 100000
set_option maxHeartbeats 8000000
namespace Go.Proofs.YtbemfdcjieakdaaGreatDoor
section
open Go.RowKit
structure RC (P q:Nat) (rb:Option Nat) (W:World) (L:List UInt8):Prop where
 rd:Rd W P q rb L 0
 len:L.length<=big
 rlt:∀k,rb=some k->k<W.heap.size
variable {P q : Nat} {rb : Option Nat} {W : World} {L : List UInt8}
theorem RC.qlt(h:RC P q rb W L):q<W.heap.size:=h.rd.lt
theorem RC.chg{S:Nat->Prop}{w':World}(h:RC P q rb W L)(a:Chg S W w')(b:∀k,RS q rb k->¬S k):RC P q rb w' L:=
 ⟨h.rd.chg a b,h.len,fun k hk=>Ai (h.rlt k hk) a.size⟩
theorem RC.below{w':World}(h:RC P q rb W L)(a:Below W.heap.size W w'):RC P q rb w' L:=
 ⟨h.rd.below a,h.len,fun k hk=>Ai (h.rlt k hk) a.size⟩
theorem RC.post{w':World}{s:List UInt8×Nat}{L':List UInt8}(h:RC P q rb W L)(a:RPost W P q rb s w')(c:s=(L',0))(b:L'.length<=L.length):RC P q rb w' L':=by
 subst c;exact⟨a.1,Ad b h.len,fun k hk=>Ai (h.rlt k hk) a.2.size⟩
theorem a80(a:Option Addr)(b cap:Nat)(xs:List UInt8)(w:World)(h:Bs w a b cap xs)(i:b<=big):
  Calls Tryz.prog 52 #[.slice a b cap] w fun e w'=>∃q rb,e= .returned (.pointer (some ⟨q,0,none⟩))/\RC w.heap.size q rb w' xs/\Below w.heap.size w w':=by
 have d:=qh h.1;go_enter Tryz.func52,Tryz.ntmps52;go_wp2_with fail;refine(a0V a b cap xs _ h i).mono ?_;rintro e f ⟨v,rfl,n,c⟩;have k:=c.size;rcases n.parts with⟨rfl,rfl⟩ | ⟨g,l,rfl,o,j⟩
 ·go_wp2_with fail;go_ret;exact⟨_,none,rfl,⟨⟨k,none,0,Ae f _,Bs.nil _,rfl,by simp,by simp⟩,by simp,by simp⟩,((Ext.refl w).step c |>.alloc _).1⟩
 ·have m:=j.lt;go_wp2_with fail;go_ret;exact⟨_,some g,rfl,⟨⟨k,_,l,Ae f _,(j.alloc _).bs,rfl,by simp;omega,by simp;omega⟩,by rw[d.out];exact i,by simp;omega⟩,((Ext.refl w).step c |>.alloc _).1⟩
theorem a5L(ys:List UInt8)(h:RC P q rb W (a0j ys ++L))(a:ys.length<=65535):
  Calls Tryz.prog 279 #[.pointer (some ⟨q,0,none⟩)] W fun e w'=>(∃v,e= .returned v/\Own w' W.heap.size v ys)/\RC P q rb w' L/\Chg (fun k=>k=q) W w':=by
 refine(a7j P q rb (a0j ys ++L,0) W h.rd h.len).mono ?_;have b:a0j ys=be ys.length 2 ++ys:=by unfold a0j;rw[Nat.min_eq_left a,Am a]
 rw[b,a6h _ _ a];rw[b] at h;intro e w' ⟨v,c,d,h3⟩;exact⟨⟨v,c,d⟩,h.post h3 rfl (by simp;omega),h3.2⟩
theorem a7i(ys:List UInt8)(n:Int)(h:RC P q rb W (ys ++L))(c:n=ys.length):
  Calls Tryz.prog 53 #[.pointer (some ⟨q,0,none⟩),.int .i64 n] W fun e w'=>(∃v,e= .returned v/\Own w' W.heap.size v ys)/\RC P q rb w' L/\Chg (fun k=>k=q) W w':=by
 refine(a2W P q rb (ys ++L) 0 n W h.rd h.len).mono ?_;rintro e w' ⟨v,rfl,b,a⟩;rw[a1F ys L n c] at b a;exact⟨⟨v,rfl,b⟩,h.post a rfl (by simp),a.2⟩
theorem a2B(n:Nat)(h:RC P q rb W (be n 2 ++L))(b:n<65536):
  Calls Tryz.prog 54 #[.pointer (some ⟨q,0,none⟩)] W fun e w'=>e= .returned (.int .i64 (n:Int))/\RC P q rb w' L/\Chg (fun k=>k=q) W w':=by
 refine(a1S P q rb (be n 2 ++L,0) W h.rd h.len).mono ?_;rw[a1T,AN b];exact fun e w' ⟨c,a⟩=>⟨c,h.post a rfl (by simp),a.2⟩
theorem b7o(n:Nat)(h:RC P q rb W (be n 1 ++L))(b:n<256):
  Calls Tryz.prog 278 #[.pointer (some ⟨q,0,none⟩)] W fun e w'=>e= .returned (.int .i64 (n:Int))/\RC P q rb w' L/\Chg (fun k=>k=q) W w':=by
 refine(a3N P q rb (be n 1 ++L,0) W h.rd h.len).mono ?_;rw[a4I,AN b];exact fun e w' ⟨c,a⟩=>⟨c,h.post a rfl (by simp),a.2⟩
theorem a6j(n:Nat)(h:RC P q rb W (be n 8 ++L))(b:n<18446744073709551616):
  Calls Tryz.prog 180 #[.pointer (some ⟨q,0,none⟩)] W fun e w'=>e= .returned (.int .u64 (n:Int))/\RC P q rb w' L/\Chg (fun k=>k=q) W w':=by
 refine(a3L P q rb (be n 8 ++L,0) W h.rd h.len).mono ?_;rw[a3M _ _ b];exact fun e w' ⟨c,a⟩=>⟨c,h.post a rfl (by simp),a.2⟩
theorem b0b(h:RC P q rb W L):
  Calls Tryz.prog 298 #[.pointer (some ⟨q,0,none⟩)] W fun e w'=>e= .returned (.int .i64 (L.length:Int))/\W=w':=by
 refine(a8U P q rb (L,0) W h.rd).mono ?_;rintro e w' ⟨rfl,rfl⟩;exact⟨by simp[rdLeft],rfl⟩
theorem b3A(h:RC P q rb W L):
  Calls Tryz.prog 280 #[.pointer (some ⟨q,0,none⟩)] W fun e w'=>e= .returned (.int .i64 (if L=[] then 0 else 11:Int))/\W=w':=by
 refine(b0Y P q rb (L,0) W h.rd).mono ?_;rintro e w' ⟨rfl,rfl⟩;refine⟨?_,rfl⟩;unfold rdEnd;cases L <;>simp
end
section
open Go.RowKit
theorem b3D(a b k:Nat):be (a * 256 ^ k+b) k=be b k:=by
 have:∀(a k m:Nat),k<=m->be (a * 256 ^ m+b) k=be b k:=by
  intro a k
  induction k with
  | zero=>intros;rfl
  | succ k c=>
   intro m e;rw[be,be,c m (by omega)];congr 1;apply Cj.1;rw[UInt8.toNat_ofNat',UInt8.toNat_ofNat'];obtain⟨d,rfl⟩:∃d,m=k+1+d:=⟨m - (k+1),by omega⟩
   rw[show a * 256 ^ (k+1+d)+b=b+256 ^ k * (256 * (a * 256 ^ d)) by rw[Nat.pow_add,Nat.pow_succ];ac_rfl];rw[Nat.add_mul_div_left _ _ (Nat.pow_pos (by decide)),show (2:Nat) ^ 8=256 from rfl,Nat.add_mul_mod_self_left]
 exact this a k k (Aa _)
def MT:Nat:=1099511627776
structure Mk where
 gen:Nat
 seq:Nat
 seg:Int
 head:List UInt8
 state:List UInt8
def Mk.zero:Mk:=⟨0,0,0,[],[]⟩
def a2c(G Q S:Nat)(H:List UInt8)(N:Nat):List UInt8:=be G 8 ++(be Q 8 ++(be S 2 ++(H ++be N 8)))
def a5G(G Q S:Nat)(H:List UInt8)(N c:Nat)(h rest:List UInt8):List UInt8:=a2c G Q S H N ++(be (c / 65536) 2 ++(be c 2 ++(h ++rest)))
theorem a2C(G Q S:Nat)(H:List UInt8)(N:Nat)(h:H.length=32):(a2c G Q S H N).length=58:=by simp[a2c,a0d,h]
theorem a5v(G Q S:Nat)(H:List UInt8)(N c:Nat)(h rest:List UInt8)(a:H.length=32)(b:h.length=32):(a5G G Q S H N c h rest).length=94+rest.length:=by
 simp[a5G,a2C _ _ _ _ _ a,a0d,b];omega
def Mk.right(m:Mk)(g:Int):Prop:=1<=m.gen/\m.gen<=MT/\m.seq<=MT/\0<=m.seg/\m.seg<=g/\m.head.length=32
instance (m:Mk) (g:Int):Decidable (m.right g):=by unfold Mk.right;infer_instance
instance (s p g:Int):Decidable (isPlan s p g):=by unfold isPlan;infer_instance
def a1r(p:Nat)(m:Mk):List UInt8:=a5G m.gen m.seq m.seg.toNat m.head m.state.length (crcMore 0 (a2c m.gen m.seq m.seg.toNat m.head m.state.length)) (sha m.state) (m.state ++List.replicate (128 * p - 94 - m.state.length) 0)
def a6n(l:List UInt8):Bool:=l.all (· == 0)
def a5d(p g:Int)(G Q S:Nat)(H:List UInt8)(N c:Nat)(h rest:List UInt8):Nat:=
 if c≠crcMore 0 (a2c G Q S H N) then 14
 else if ¬(1<=G/\G<=MT/\Q<=MT/\(S:Int)<=g/\(N:Int)<=128 * p - 94/\a6n (rest.drop N)=true) then 12
 else if sha (rest.take N)≠h then 40 else 0
def b8X(a G Q S:Nat)(H:List UInt8)(N:Nat)(rest:List UInt8):Mk:=if a=0 then⟨G,Q,S,H,rest.take N⟩ else Mk.zero
theorem a5f(k:Nat):a6n (List.replicate k 0)=true:=by
 unfold a6n;rw[Br];intro x a;rw[List.eq_of_mem_replicate a];rfl
theorem b5H(p g:Int)(m:Mk)(b:m.right g)(f:(m.state.length:Int)<=128 * p - 94)(c:Nat)(a:c=crcMore 0 (a2c m.gen m.seq m.seg.toNat m.head m.state.length)):
  a5d p g m.gen m.seq m.seg.toNat m.head m.state.length c (sha m.state) (m.state ++List.replicate (128 * p.toNat - 94 - m.state.length) 0)=0:=by
 obtain⟨d,e,h3,h,i,j⟩:=b;unfold a5d;rw[Ag (by simp[a]),Ag,Ag]
 ·simp
 ·simp only[Classical.not_not];exact⟨d,e,h3,by omega,f,by rw[List.drop_left];exact a5f _⟩
theorem a77(s p g:Int)(w:World)(h:isPlan s p g):
  Calls Tryz.prog 204 #[.agg #[.int .i64 s,.int .i64 p,.int .i64 g]] w fun e w'=>e= .returned (.int .i64 (128 * p - 94))/\Below w.heap.size w w':=by
 have c:=h.bd;have b:=qh (a2X s p g (w.alloc (.cells #[.int .i64 s,.int .i64 p,.int .i64 g] 47)) h);clear h;have k:IntKind.i64.wrap (128 * p)=128 * p:=Ak _ (by omega);have j:IntKind.i64.wrap (128 * p - 94)=128 * p - 94:=Ak _ (by omega);have l:(0:Int)<=128 * p - 94:=by omega
 go_enter Tryz.func204,Tryz.ntmps204;go_wp2_with fail;refine b.out.mono ?_;rintro e d ⟨rfl,a⟩;have f:=((Ext.refl w).alloc (.cells #[.int .i64 s,.int .i64 p,.int .i64 g] 47)).step a;have i:d.cell? ⟨w.heap.size,1,none⟩=some (.int .i64 p):=a0l a 1;clear a b;go_wp2_with fail;all_goals go_ret
 all_goals exact⟨a0F (by omega),f.1⟩
theorem a4l(s p g:Int)(m:Mk)(d k:Option Addr)(c f l i:Nat)(w:World)(b:m.head.length=c):
  Calls Tryz.prog 203 #[.agg #[.int .i64 s,.int .i64 p,.int .i64 g],.agg #[.int .u64 (m.gen:Int),.int .u64 (m.seq:Int),.int .i64 m.seg,.slice d c f,.slice k l i]] w fun e w'=>e= .returned (.bool (decide (m.right g)))/\Below w.heap.size w w':=by
 obtain⟨G,Q,S,H,T⟩:=m;simp only at b;generalize a:decide (Mk.right ⟨G,Q,S,H,T⟩ g)=n;have h:=qh a;have j:=qh b;clear a b;simp only;go_enter Tryz.func203,Tryz.ntmps203;go_wp2;all_goals go_ret
 all_goals refine⟨a2A ?_,(((Ext.refl w).alloc _).alloc _).1⟩
 all_goals have b:=j.out
 all_goals rw[<-h.out,Bl]
 all_goals rw[Cm (p:=Mk.right _ _)]
 all_goals simp only[Mk.right,MT,AV,false_iff]
 all_goals (first | omega | (simp_all;done) | (simp_all;omega) | go_goals)
theorem b3P(m n:Mk)(p d k f:Option Addr)(o j q i l r s h:Nat)(b fb:Bool)(w:World):
  Calls Tryz.prog 209 #[.agg #[.int .u64 (m.gen:Int),.int .u64 (m.seq:Int),.int .i64 m.seg,.slice p o l,.slice d j r],.agg #[.int .u64 (n.gen:Int),.int .u64 (n.seq:Int),.int .i64 n.seg,.slice k q s,.slice f i h],.bool b,.bool fb] w
   fun e w'=>e= .returned (.tuple #[.int .i64 (if b=true/\(fb=false∨n.gen<=m.gen) then 0 else if fb=true then 1 else 0),.bool (b || fb)])/\Below w.heap.size w w':=by
 obtain⟨G,Q,S,H,T⟩:=m;obtain⟨c,t,S',v,u⟩:=n;simp only;cases b <;>cases fb
 all_goals simp only[AV,false_and,Cv,true_and,Bool.or_false,Bool.or_true,BR,true_or,false_or,reduceCtorEq]
 ·go_enter Tryz.func209,Tryz.ntmps209;go_wp2;go_ret2;exact⟨rfl,(((Ext.refl w).alloc _).alloc _).1⟩
 ·go_enter Tryz.func209,Tryz.ntmps209;go_wp2;go_ret2;exact⟨rfl,(((Ext.refl w).alloc _).alloc _).1⟩
 ·go_enter Tryz.func209,Tryz.ntmps209;go_wp2;go_ret2;exact⟨rfl,(((Ext.refl w).alloc _).alloc _).1⟩
 ·by_cases a:c<=G
  ·have g:(c:Int)<=(G:Int):=by omega
   rw[Ah a];clear a;go_enter Tryz.func209,Tryz.ntmps209;go_wp2;go_ret2;exact⟨rfl,(((Ext.refl w).alloc _).alloc _).1⟩
  ·have g:¬(c:Int)<=(G:Int):=by omega
   rw[Ag a];clear a;go_enter Tryz.func209,Tryz.ntmps209;go_wp2;go_ret2;exact⟨rfl,(((Ext.refl w).alloc _).alloc _).1⟩
def CellsAt(w:World)(b:Nat)(a:List Value):Prop:=b<w.heap.size/\∀i v,a[i]? =some v->w.cell? ⟨b,i,none⟩=some v
theorem CellsAt.below{w w':World}{b:Nat}{cs:List Value}(h:CellsAt w b cs)(a:Below w.heap.size w w'):CellsAt w' b cs:=
 ⟨Ai h.1 a.size,fun i v hv=>(a.cell (p:=⟨b,i,none⟩) h.1).trans (h.2 i v hv)⟩
theorem CellsAt.new(w:World)(cs:List Value)(t:TypeId):CellsAt (w.alloc (.cells cs.toArray t)) w.heap.size cs:=
 ⟨by simp,fun i v hv=>by rw[a07];simpa using hv⟩
def plC(s p g:Int):List Value:=[.int .i64 s,.int .i64 p,.int .i64 g]
def mkC(m:Mk)(b:Option Addr)(a c:Nat)(f:Option Addr)(e d:Nat):List Value:=[.int .u64 (m.gen:Int),.int .u64 (m.seq:Int),.int .i64 m.seg,.slice b a c,.slice f e d]
theorem b0f(s p g:Int)(m:Mk)(i n:Option Addr)(o j f l:Nat)(w:World)(h:isPlan s p g)(hH:Bs w i o j m.head)(hT:Bs w n f l m.state)(z:m.right g)(O:128 * p - 94<(f:Int)):
  Calls Tryz.prog 121 #[.agg #[.int .i64 s,.int .i64 p,.int .i64 g],.agg #[.int .u64 (m.gen:Int),.int .u64 (m.seq:Int),.int .i64 m.seg,.slice i o j,.slice n f l]] w fun e w'=>e= .returned (.tuple #[.slice none 0 0,.int .i64 15])/\Below w.heap.size w w':=by
 obtain⟨G,Q,q,H,T⟩:=m;simp only at *;have hPl:=(CellsAt.new w (plC s p g) 47).below ((Ab _ _).alloc (Aa _) (.cells (mkC ⟨G,Q,q,H,T⟩ i o j n f l).toArray 119));have hMk:=CellsAt.new (w.alloc (.cells (plC s p g).toArray 47)) (mkC ⟨G,Q,q,H,T⟩ i o j n f l) 119;have hE:=((Ext.refl w).alloc (.cells (plC s p g).toArray 47)).alloc (.cells (mkC ⟨G,Q,q,H,T⟩ i o j n f l).toArray 119);rw[AR] at hMk;have x:=qh (a2X s p g ((w.alloc (.cells (plC s p g).toArray 47)).alloc (.cells (mkC ⟨G,Q,q,H,T⟩ i o j n f l).toArray 119)) h);have v:=qh h;obtain⟨B,u⟩:=qnm w.heap.size;have t:=qh u;clear h;go_enter Tryz.func121,Tryz.ntmps121;go_wp2_with fail;refine x.out.mono ?_;rintro e N ⟨rfl,a⟩;replace hE:=hE.step a;replace hPl:=hPl.below a;replace hMk:=hMk.below a;rw[<-u] at hPl hMk hE⊢;replace hH:=((hH.alloc _).alloc _).below a;replace hT:=((hT.alloc _).alloc _).below a;clear a x u;have c:=hPl.2;have F:=c 0 _ rfl;have L:=c 1 _ rfl;have I:=c 2 _ rfl;clear c;have c:=hMk.2;have C:=c 0 _ rfl;have D:=c 1 _ rfl;have J:=c 2 _ rfl;have E:=c 3 _ rfl;have A:=c 4 _ rfl;clear c;have y:=hH.1;have r:=qh (a4l s p g ⟨G,Q,q,H,T⟩ i n o j f l N y);rw[AB z] at r;go_wp2_with fail;refine r.out.mono ?_;rintro e w2 ⟨rfl,a⟩;replace hE:=hE.step a;replace hPl:=hPl.below a;replace hMk:=hMk.below a;replace hH:=hH.below a;replace hT:=hT.below a;clear a r F L I C D J E A;clear z y;go_upto_region 5 with fail
 obtain⟨wd,k⟩:=qnm w2.drew;have a:Below w2.heap.size w2 wd:=by rw[k];exact(Ab _ _).drew
 have hPl:=hPl.below a;have hMk:=hMk.below a;have hH:=hH.below a;have hT:=hT.below a;have hE:=hE.step a;clear a;refine a2J (by kernel_rfl) (fun hHeld=>?_);rw[<-k] at hHeld⊢;clear k;refine qth 0 18 ?_;refine qth 1 19 ?_ (hy:=Or.inl ⟨by rfl,by intro w d;(try dsimp only at d);have c:=(hMk.below d).2;have R:=c 4 _ rfl;clear c;go_simp;(try with_reducible rfl)⟩);refine qth 2 20 ?_;refine qth 3 21 ?_ (hy:=Or.inl ⟨by rfl,by intro w d;(try dsimp only at d);have c:=(hPl.below d).2;have P:=c 0 _ rfl;have S:=c 1 _ rfl;have U:=c 2 _ rfl;clear c;go_simp;(try with_reducible rfl)⟩);refine qrd 4 fun K hK=>?_
 go_simp;refine(a77 s p g _ v.out).mono ?_;rintro e M ⟨rfl,a⟩;have b:=HB.trans hHeld a;have hPl:=hPl.below b;have hMk:=hMk.below b;have hH:=hH.below b;have hT:=hT.below b;have hE:=hE.step b;go_wp2_with fail;refine hK.out _ _ b (fun _=>a2r b (fun hHeld2=>?_));clear hK hHeld a b K;have hHeld:=hHeld2;clear hHeld2;refine qth 5 23 ?_;refine qth 6 17 ?_;refine Bn (by kernel_rfl) ?_ _;go_wp2_with fail;go_ret2;exact⟨rfl,by rw[<-t.out];exact hE.1⟩
theorem b7p(s p g:Int)(m:Mk)(N o:Option Addr)(z M lt t:Nat)(w:World)(h:isPlan s p g)(hH:Bs w N z M m.head)(hT:Bs w o lt t m.state)(hr:m.right g)(hl:(lt:Int)<=128 * p - 94):
  Calls Tryz.prog 121 #[.agg #[.int .i64 s,.int .i64 p,.int .i64 g],.agg #[.int .u64 (m.gen:Int),.int .u64 (m.seq:Int),.int .i64 m.seg,.slice N z M,.slice o lt t]] w fun e w'=>∃v,e= .returned (.tuple #[v,.int .i64 0])/\Own w' w.heap.size v (a1r p.toNat m)/\Below w.heap.size w w':=by
 obtain⟨G,Q,F,H,T⟩:=m;simp only at *;have hPl:=(CellsAt.new w (plC s p g) 47).below ((Ab _ _).alloc (Aa _) (.cells (mkC ⟨G,Q,F,H,T⟩ N z M o lt t).toArray 119));have hMk:=CellsAt.new (w.alloc (.cells (plC s p g).toArray 47)) (mkC ⟨G,Q,F,H,T⟩ N z M o lt t) 119;have hE:=((Ext.refl w).alloc (.cells (plC s p g).toArray 47)).alloc (.cells (mkC ⟨G,Q,F,H,T⟩ N z M o lt t).toArray 119);rw[AR] at hMk;have HR:=qh (a2X s p g ((w.alloc (.cells (plC s p g).toArray 47)).alloc (.cells (mkC ⟨G,Q,F,H,T⟩ N z M o lt t).toArray 119)) h);have E:=qh h;obtain⟨B,hB⟩:=qnm w.heap.size;have V:=qh hB;clear h;go_enter Tryz.func121,Tryz.ntmps121;go_wp2_with fail;refine HR.out.mono ?_;rintro e w1 ⟨rfl,b⟩;replace hE:=hE.step b;replace hPl:=hPl.below b;replace hMk:=hMk.below b;rw[<-hB] at hPl hMk hE⊢;replace hH:=((hH.alloc _).alloc _).below b;replace hT:=((hT.alloc _).alloc _).below b;clear b HR hB;have c:=hPl.2;have p0:=c 0 _ rfl;have p1:=c 1 _ rfl;have p2:=c 2 _ rfl;clear c;have c:=hMk.2;have m0:=c 0 _ rfl;have m1:=c 1 _ rfl;have m2:=c 2 _ rfl;have m3:=c 3 _ rfl;have m4:=c 4 _ rfl;clear c;have hh:=hH.1;have x:=qh (a4l s p g ⟨G,Q,F,H,T⟩ N o z M lt t w1 hh);rw[AB hr] at x;go_wp2_with fail;refine x.out.mono ?_;rintro e w2 ⟨rfl,b⟩;replace hE:=hE.step b;replace hPl:=hPl.below b;replace hMk:=hMk.below b;replace hH:=hH.below b;replace hT:=hT.below b;clear b x p0 p1 p2 m0 m1 m2 m3 m4;have ai:=E.out.bd;obtain⟨r1,r2,r3,r4,r5,r6⟩:=hr;simp only at r1 r2 r3 r4 r5 r6;obtain⟨l,rfl⟩:∃l:Nat,F=(l:Int):=⟨F.toNat,by omega⟩
 have a7:z=32:=by rw[<-hh];exact r6
 subst a7;have W:=hT.1;have ab:MT=1099511627776:=rfl;have e5:¬(128 * p - 94<(lt:Int)):=by omega
 have au:l<=4096:=by omega
 obtain⟨k,hk⟩:∃k:Nat,128 * p - 94 - (lt:Int)=(k:Int):=⟨(128 * p - 94 - (lt:Int)).toNat,by omega⟩
 have S:k=128 * p.toNat - 94 - T.length:=by omega
 have ao:k<=200000:=by omega
 have ad:lt<=200000:=by omega
 have i1:IntKind.i64.wrap (128 * p - 94 - (lt:Int))=(k:Int):=by rw[Ak _ (by omega)];exact hk
 have HK:=qh hk;have HX:=qh (show a1r p.toNat ⟨G,Q,(l:Int),H,T⟩=a2c G Q l H T.length ++(be (crcMore 0 (a2c G Q l H T.length) / 65536) 2 ++(be (crcMore 0 (a2c G Q l H T.length)) 2 ++(sha T ++(T ++List.replicate k 0)))) by rw[S];rfl);have ac:=qh (a2C G Q l H T.length r6);have I:=qh W;have a3:=qh r6;clear r1 r2 r3 r4 r5 r6 hh ab S hk W;go_upto_region 5 with fail
 obtain⟨wd,O⟩:=qnm w2.drew;have b:Below w2.heap.size w2 wd:=by rw[O];exact(Ab _ _).drew
 have hPl:=hPl.below b;have hMk:=hMk.below b;have hH:=hH.below b;have hT:=hT.below b;have hE:=hE.step b;clear b;refine a2J (by kernel_rfl) (fun hHeld=>?_);rw[<-O] at hHeld⊢;clear O;refine qth 0 18 ?_;refine qth 1 19 ?_ (hy:=Or.inl ⟨by rfl,by intro w i;(try dsimp only at i);have c:=(hMk.below i).2;have c4:=c 4 _ rfl;clear c;go_simp;(try with_reducible rfl)⟩);refine qth 2 20 ?_;refine qth 3 21 ?_ (hy:=Or.inl ⟨by rfl,by intro w i;(try dsimp only at i);have c:=(hPl.below i).2;have c0:=c 0 _ rfl;have c1:=c 1 _ rfl;have c2:=c 2 _ rfl;clear c;go_simp;(try with_reducible rfl)⟩);refine qrd 4 fun K hK=>?_
 go_simp;refine(a77 s p g _ E.out).mono ?_;rintro e r ⟨rfl,b⟩;have j:=HB.trans hHeld b;have hPl:=hPl.below j;have hMk:=hMk.below j;have hH:=hH.below j;have hT:=hT.below j;have hE:=hE.step j;go_wp2_with fail;refine hK.out _ _ j (fun _=>a2r j (fun hHeld2=>?_));clear hK hHeld b j K;have hHeld:=hHeld2;clear hHeld2;refine qth 5 23 ?_;refine qth 6 17 ?_;refine Bn (by kernel_rfl) ?_ _;have c:=hPl.2;have q0:=c 0 _ rfl;have q1:=c 1 _ rfl;have q2:=c 2 _ rfl;clear c;have c:=hMk.2;have n0:=c 0 _ rfl;have n1:=c 1 _ rfl;have n2:=c 2 _ rfl;have n3:=c 3 _ rfl;have L:=c 4 _ rfl;clear c;have d:=hPl.1;have f:=hMk.1;clear hPl hMk hHeld;go_wp2_with fail;refine(a2k _).mono ?_;rintro e w3 ⟨rfl,a1,hb1⟩;have a:WI r r.heap.size r.heap.size w3 []:=⟨(Ext.refl r).step hb1,none,a1⟩
 obtain⟨q,hq⟩:=qnm r.heap.size;rw[<-hq] at a d f⊢;have x:=qh hq;clear a1 hb1 hq;have d0:=a.cell f n0;go_wp2_with fail;refine(a18 G a (by simp;unfold big;decide)).mono ?_;rintro e w4 ⟨rfl,a⟩;have d1:=a.cell f n1;clear d0;go_wp2_with fail;refine(a18 Q a (by simp[a0d];unfold big;decide)).mono ?_;rintro e w5 ⟨rfl,a⟩;have d2:=a.cell f n2;clear d1;go_wp2_with fail;refine(a0H l a (by omega) (by simp[a0d];unfold big;decide)).mono ?_;rintro e w6 ⟨rfl,a⟩;have d3:=a.cell f n3;have a0:=a.1.bs x.out.symm hH;clear d2;go_wp2_with fail;refine(a1E a a0 (by simp[a0d];unfold big;decide)).mono ?_;rintro e w7 ⟨rfl,a⟩;have R:=a.cell f L;clear d3 a0;go_wp2_with fail;refine(a18 lt a (by simp[a0d,a3.out];unfold big;decide)).mono ?_;rintro e w8 ⟨rfl,a⟩;have e1:[] ++be G 8 ++be Q 8 ++be l 2 ++H ++be lt 8=a2c G Q l H T.length:=by simp[a2c,I.out]
 rw[e1] at a;clear e1 R;have hln:=ac.out;generalize a2c G Q l H T.length=X at *;go_wp2_with fail;refine(a10 a (by rw[hln];unfold big;decide)).mono ?_;rintro e w9 ⟨a8,c8,rfl,_,J,a⟩;rw[hln] at J;go_wp2_with fail;refine(a4j _ _ _ _ _ J).mono ?_;rintro e ag ⟨rfl,rfl⟩;have ae:=a2j 0 X;generalize crcMore 0 X=c at *;clear J;have P:=a0H (c / 65536) a (by omega) (by rw[hln];unfold big;decide);rw[show((c / 65536:Nat):Int)=(c:Int) / 65536 by omega] at P;go_wp2_with fail;refine P.mono ?_;rintro e av ⟨rfl,a⟩;clear P;go_wp2_with fail;refine(a0H c a (by omega) (by rw[Af,hln,a0d];unfold big;decide)).mono ?_;rintro e am ⟨rfl,a⟩;have C:(X ++be (c / 65536) 2 ++be c 2).length=62:=by rw[Af,Af,hln,a0d,a0d]
 have HY:=qh (show(X ++be (c / 65536) 2 ++be c 2) ++sha T ++T ++List.replicate k 0=X ++(be (c / 65536) 2 ++(be c 2 ++(sha T ++(T ++List.replicate k 0)))) by simp only[List.append_assoc]);generalize X ++be (c / 65536) 2 ++be c 2=Y at *;have R:=a.cell f L;have u:=a.1.bs x.out.symm hT;go_wp2_with fail;refine(a2I _ _ _ _ _ u (by omega)).mono ?_;rintro e aq ⟨ak,rfl,ho,b⟩;obtain⟨an,ar,rfl,A⟩:=ho.bsn (n:=32) (a0v _);have a:=a.below b;have aa:=a0v T;generalize sha T=ST at *;clear b ho R u;go_wp2_with fail;refine(a1E a A (by rw[C];unfold big;decide)).mono ?_;rintro e aj ⟨rfl,a⟩;have R:=a.cell f L;have u:=a.1.bs x.out.symm hT;have D:(Y ++ST).length=94:=by rw[Af,C,aa]
 clear A;go_wp2_with fail;refine(a1E a u (by rw[D];unfold big;omega)).mono ?_;rintro e af ⟨rfl,a⟩;have R:=a.cell f L;have d0:=a.cell d q0;have d1:=a.cell d q1;have d2:=a.cell d q2;have a2:(Y ++ST ++T).length=94+lt:=by rw[Af,D,I.out]
 have a:=a.drew;clear u;go_upto_region 18 with fail
 refine a0h (fun _=>true) (fun w'=>w'.cell? ⟨B,0,none⟩=some (.int .i64 s)/\w'.cell? ⟨B,1,none⟩=some (.int .i64 p)/\w'.cell? ⟨B,2,none⟩=some (.int .i64 g)/\w'.cell? ⟨B+1,4,none⟩=some (.slice o lt t)) (by kernel_rfl) ⟨d0,d1,d2,R⟩ (fun hHeld=>?_);refine qtk 0 68 ?_;refine qtk 3 71 ?_;refine qtk 1 69 ?_ (hy:=Or.inl ⟨by rfl,by intro w i;(try dsimp only at i);obtain⟨x0,x1,x2,x4⟩:=i;go_simp;(try with_reducible rfl)⟩);refine qtk 4 72 ?_ (hy:=Or.inl ⟨by rfl,by intro w i;(try dsimp only at i);obtain⟨x0,x1,x2,x4⟩:=i;go_simp;(try with_reducible rfl)⟩);refine qtk 5 73 ?_;refine qone 2 fun K hK=>?_
 go_simp;refine(a77 s p g _ E.out).mono ?_;rintro e w19 ⟨rfl,b⟩;have a:=a.below b;clear hHeld;have hHeld:(fun w'=>w'.cell? ⟨B,0,none⟩=some (.int .i64 s)/\w'.cell? ⟨B,1,none⟩=some (.int .i64 p)/\w'.cell? ⟨B,2,none⟩=some (.int .i64 g)/\w'.cell? ⟨B+1,4,none⟩=some (.slice o lt t)) w19:=⟨a.cell d q0,a.cell d q1,a.cell d q2,a.cell f L⟩
 go_wp2_with fail;refine hK.out _ _ (fun _=>hHeld) ?_;clear hK K b;refine qtk 6 74 ?_;refine qone 7 fun K hK=>?_
 have U:=a1W k (by omega) w19;have hZ:=(Row.zero w19 k (by unfold maxLen;omega)).bs;rw[Ba] at hZ;have a:=a.below ((Ab _ _).alloc (Aa _) (.cells (madeCells #[.int .u8 0] k) TB));go_simp;generalize w19.alloc (.cells (madeCells #[.int .u8 0] k) TB)=w20 at *;clear hHeld;have hHeld:(fun w'=>w'.cell? ⟨B,0,none⟩=some (.int .i64 s)/\w'.cell? ⟨B,1,none⟩=some (.int .i64 p)/\w'.cell? ⟨B,2,none⟩=some (.int .i64 g)/\w'.cell? ⟨B+1,4,none⟩=some (.slice o lt t)) w20:=⟨a.cell d q0,a.cell d q1,a.cell d q2,a.cell f L⟩
 refine hK.out _ _ (fun _=>hHeld) ?_;clear hK K U;refine qone 8 fun K hK=>?_
 go_simp;refine(a1E a hZ (by rw[a2];unfold big;omega)).mono ?_;rintro e w21 ⟨rfl,a⟩;clear hHeld;have hHeld:(fun w'=>w'.cell? ⟨B,0,none⟩=some (.int .i64 s)/\w'.cell? ⟨B,1,none⟩=some (.int .i64 p)/\w'.cell? ⟨B,2,none⟩=some (.int .i64 g)/\w'.cell? ⟨B+1,4,none⟩=some (.slice o lt t)) w21:=⟨a.cell d q0,a.cell d q1,a.cell d q2,a.cell f L⟩
 go_wp2_with fail;refine hK.out _ _ (fun _=>hHeld) ?_;clear hK K hHeld hZ;refine qdon ?_;rw[HY.out,<-HX.out] at a;obtain⟨Z,y⟩:=qnm (a1r p.toNat ⟨G,Q,(l:Int),H,T⟩);have h1:=I.out;have hl:Z.length<=900000:=by rw[y,HX.out];simp only[Af,a0d,Ba];omega
 rw[<-y] at a;have HZ:=qh y;clear y;go_wp2_with fail;refine(a10 a (by unfold big;omega)).mono ?_;rintro e ap ⟨a4,a5,rfl,ho,_,a6⟩;go_wp2_with fail;go_ret2;have a9:=hE.to (a6.1.1.mono (by rw[x.out];exact hE.2));exact⟨.slice a4 Z.length a5,rfl,by rw[<-HZ.out,<-V.out];exact ho.base (hE.to (a.1.1.mono (by rw[x.out];exact hE.2))).2,by rw[<-V.out];exact a9.1⟩
end
end Go.Proofs.YtbemfdcjieakdaaGreatDoor
