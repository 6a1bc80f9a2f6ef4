/- SuperLaw; Disk2; Flush; Place; Arg; RecordRows; Fits; Strs. -/
import Derived.Carry
import Derived.ChangeOld
import Derived.Deep.Slices
import Derived.Laws.CopyOwn
import Derived.Laws.OwnMore
import Derived.ProofKit
import Derived.Test.YtbemfdcjieakdaaGreatDoorK10
import Derived.Test.YtbemfdcjieakdaaGreatDoorK14
set_option maxRecDepth 100000
set_option maxHeartbeats 8000000
namespace Go.Proofs.YtbemfdcjieakdaaGreatDoor
section
open Go.RowKit
theorem a6S(n:Nat)(id:List UInt8)(h:id.length=16):(a1V n id).length=24:=by simp[a1V,a0d,h]
theorem a6R(c:Nat):(a3I c).length=104:=by simp[a3I,a0d]
theorem a2M(n:Nat)(id:List UInt8)(h:id.length=16):(supBytes n id).length=128:=by
 rw[supBytes,Af,a6S n id h,a6R]
theorem b7g(n:Nat)(id:List UInt8)(T:List UInt8)(h:id.length=16)(a:n<65536):supN (a1V n id ++T)=n/\a5E (a1V n id ++T)=id:=by
 have b:a1V n id ++T=[87,79,82,77] ++(be 1 2 ++(be n 2 ++(id ++T))):=by simp[a1V]
 unfold supN a5E;rw[b,a1F _ _ 4 rfl];simp only;rw[a1T];simp only;rw[a1T];simp only;rw[a1F _ _ 16 (by rw[h];rfl)];exact⟨AN a,rfl⟩
theorem a9O(n:Nat)(id:List UInt8)(h:id.length=16)(e:64<=n)(f:n<=4096):a9G (supBytes n id)/\supN (supBytes n id)=n/\a5E (supBytes n id)=id:=by
 obtain⟨d,c⟩:=b7g n id (a3I (crcMore 0 (a1V n id))) h (by omega);have a:supN (supBytes n id)=n:=d;have b:a5E (supBytes n id)=id:=c;exact⟨by unfold a9G;rw[a,b];exact⟨e,f,h,rfl⟩,a,b⟩
end
section
open Go.RowKit Go.ChangeMaps Go.MapKept
theorem b8E(w:World)(n:Nat)(c:n<=4096):
  Dk (((w.alloc (.cells (madeCells #[.int .u8 0] (128 * n)) TB)).alloc (.map #[] 0)).alloc (.cells #[.slice (some ⟨w.heap.size,0,none⟩) (128 * n) (128 * n),.map (some (w.heap.size+1)),.int .i64 0] b2B)) (w.heap.size+2) w.heap.size (w.heap.size+1) n (List.replicate (128 * n) 0) (fun _=>none):=by
 have d:=Row.zero w (128 * n) (by unfold maxLen;omega);have b:=MapAt.made numS (P:=Tryz.prog) (k:=TI64) (w.alloc (.cells (madeCells #[.int .u8 0] (128 * n)) TB));have a:=Ae ((w.alloc (.cells (madeCells #[.int .u8 0] (128 * n)) TB)).alloc (.map #[] 0)) (.cells #[.slice (some ⟨w.heap.size,0,none⟩) (128 * n) (128 * n),.map (some (w.heap.size+1)),.int .i64 0] b2B);simp only[AR,Nat.add_assoc,Nat.reduceAdd] at a b;refine⟨⟨by omega,by omega,by omega⟩,by simp,c,⟨128 * n,0,a,(d.alloc _).alloc _⟩,[],?_,fun _ _=>rfl,fun i v h=>by simp[getK] at h⟩;exact b.same numS (AW _ _ _ (by simp))
def b79(w:World)(n:Nat)(e:Ending)(w':World):Prop:=∃d sb mb,e= .returned (.tuple #[.pointer (some ⟨d,0,none⟩),.int .i64 0])/\Dk w' d sb mb n (List.replicate (128 * n) 0) (fun _=>none)/\w.heap.size<=d/\w.heap.size<=sb/\w.heap.size<=mb/\Below w.heap.size w w'
theorem b6x(n:Nat)(w:World)(h:64<=n)(c:n<=4096):
  Calls Tryz.prog 23 #[.int .i64 (n:Int)] w (b79 w n):=by
 have a:=a1W (128 * n) (by omega) w;rw[show((128 * n:Nat):Int)=128 * (n:Int) by omega] at a;have d:=@run_makeMap Tryz.prog;have f:IntKind.i64.wrap ((n:Int) * 128)=((128 * n:Nat):Int):=by rw[Ak _ (by omega)];omega
 have e:¬(n:Int)<64:=by omega
 have g:¬(4096:Int)<(n:Int):=by omega
 have b:=qh (b8E w n c);go_enter Tryz.func23,Tryz.ntmps23;go_wp2_with fail;go_ret2;refine⟨w.heap.size+2,w.heap.size,w.heap.size+1,rfl,b.out,by omega,by omega,by omega,?_⟩;exact(((Ab _ w).alloc (Aa _) _).alloc (by simp) _).alloc (by simp;omega) _
end
section
open Go.RowKit Go.ChangeMaps Go.MapKept Go.Maps
theorem a72{w:World}(g off m c cap:Nat)(S:List UInt8)(q:Option Addr)(a:Nat)(b:List UInt8)
  (F:Row w g cap S) (B:Bs w q m a b) (x:0<m) (A:off+m<=S.length):
  ∃w',(∀r,(Builtin.copy_ #[30,30] r #[.slice (some ⟨g,off,none⟩) m c,.slice q m a]).run Tryz.prog w= .ok (.int .i64 (m:Int)) w')/\Row w' g cap (splice S off b)/\Chg (fun k=>k=g) w w':=by
 have h:=B.1;obtain⟨o,rfl,f⟩:∃o,q=some o/\∀j u,(b.map bv)[j]? =some u->w.cell? (o.add j)=some u:=by
  rcases B.news with⟨_,z,_⟩ | z
  ·omega
  ·exact z
 obtain⟨cur,d,G,s,n,t⟩:=F;have e:(b.map bv).length=m:=by rw[AC,h]
 have C:cur.toList.length=cur.size:=Array.length_toList;have D:S.length<=cur.toList.length:=by omega
 have E:min off cur.toList.length=off:=by omega
 have H:min off (min S.length cur.toList.length)=off:=by omega
 have p:Row (w.setRow g (cur.toList.take off ++((b.map bv) ++cur.toList.drop (off+(b.map bv).length))).toArray) g cap (splice S off b):=by
  refine⟨_,AF w g cur _ TB (0,0) d,?_,by rw[length_splice _ _ _ (by omega)];exact s,n,?_⟩
  ·simp;omega
  ·rw[length_splice _ _ _ (by omega)];unfold splice;simp only[AZ,List.map_take,List.map_drop,<-t,AC,h];refine List.ext_getElem? fun i=>?_
   simp only[AS,List.getElem?_append,CA,Av,AC,h,Cq,E,H];repeat' split
   all_goals first | rfl | omega | (congr 1;omega) | skip
 refine⟨_,fun r=>?_,p,⟨rfl,rfl,rfl,by simp[World.setRow],fun k _ hk=>BY w g k _ hk⟩⟩;have l:=run_copy_row (P:=Tryz.prog) w 30 30 r 5 g off m c o m a cur TB (b.map bv) Tryz.underlying30 (by kernel_rfl) d (by rw[e];exact(Nat.min_self m).symm) f (by rw[e];omega) (fun v hv=>by obtain⟨y,_,rfl⟩:=AX.1 hv;rfl);rw[l,e];simp only[List.append_assoc];rfl
theorem MapAt.clear{d:Type}[DecidableEq d]{S:Spell d}{P:Program}{w:World}{b:Nat}{k t e:TypeId}{L:List (d×Value)}(h:MapAt S P k w b L)(i:P.underlying t=some (.map k e))(g:TypeId):
  ∃w',(Builtin.clear_ #[t] g #[.map (some b)]).run P w= .ok (.tuple #[]) w'/\MapAt S P k w' b []/\w.mapTurned w' b:=by
 obtain⟨f,a,c,F,j,l⟩:=h;refine⟨setBlock w b (.map #[] a),?_,⟨#[],a,by simp[setBlock,(Array.getElem?_eq_some_iff.1 c).1],⟨by simp,stamped_empty _,by simp⟩,Aa _,rfl⟩,⟨f,a,#[],a,c,rfl⟩⟩;simp[Builtin.clear_,run_underlying i,MapKept.run_getObj_map c,MapKept.run_setObj_map _ c,Result.andThen,setBlock]
theorem a4W{L:List (Nat×Value)}{x:Int}{c:Value}{k:Lit}{y:DataW Value×List MemPlace}(hk:keyOf Tryz.prog TI64 (.int .i64 x)=some k)(m:RH c=some y)(a:∀zd,(a3o numS L).atKey k zd=y.1):
  ∃i:Nat,x=i/\k=numS.lit i/\getK i L=some c:=by
 obtain⟨x',j,rfl,_⟩:=Maps.keyOf_int_inv Tryz.underlying3 hk;injection j with _ j
 subst j;simp only[RH,BZ] at m;subst m;have d:=a (.held (.bool true));have e:=a (.held (.bool false));unfold a3o at d e;simp only[DataW.atKey] at d e;cases h:(L.map fun p=>(numS.lit p.1,DataW.held p.2)).find? (fun p=>p.1.sameKey (Lit.int .i64 x)) with
 | none=>
  rw[h] at d e;exact absurd (d.trans e.symm) (by simp)
 | some q=>
  obtain⟨p,r,rfl⟩:=AX.1 (List.mem_of_find?_eq_some h);have b:=List.find?_some h;have o:x=(p.1:Int):=by
   have:(Lit.int .i64 (p.1:Int)).sameKey (.int .i64 x)=true:=b;simp[Lit.sameKey] at this;exact this.symm
  subst o;refine⟨p.1,rfl,rfl,?_⟩;have h3:=a5h numS p.1 (.held (.bool true)) L;have l:=a5h numS p.1 (.held (.bool false)) L;have f:=(a (.held (.bool true))).symm.trans h3;have n:=(a (.held (.bool false))).symm.trans l;clear h3 l a d e h;generalize getK p.1 L=g at f n⊢;cases g with
  | none=>exact absurd (f.symm.trans n) (by simp)
  | some v=>simp only[DataW.held.injEq] at f;rw[f]
def secOf(S:List UInt8)(i:Nat):List UInt8:=(S.drop (128 * i)).take 128
theorem a4z(S:List UInt8)(M:Nat->Option (List UInt8))(i:Nat)(h:M i=none):sect S M i=secOf S i:=by unfold sect;rw[h];rfl
theorem a8P(S:List UInt8)(M:Nat->Option (List UInt8))(i:Nat)(bs:List UInt8)(h:M i=some bs):sect S M i=bs:=by unfold sect;rw[h];rfl
theorem a8Q(S:List UInt8)(n i j:Nat)(b:List UInt8)(c:S.length=128 * n)(g:i<n)(d:j<n)(f:b.length=128):secOf (splice S (128 * i) b) j=if j=i then b else secOf S j:=by
 unfold secOf splice;refine List.ext_getElem? fun q=>?_
 by_cases a:q<128
 ·by_cases h:j=i
  ·subst h;simp only[AS,CA,List.getElem?_append,Av];simp only[Ah a];rw[Ag (by omega),Ah (by omega)];congr 1;omega
  ·simp only[Ag h,AS,CA,List.getElem?_append,Av,Ah a];by_cases e:j<i
   ·rw[Ah (by omega),Ah (by omega)]
   ·rw[Ag (by omega),Ag (by omega)];congr 1;omega
 ·rw[AS,Ag a];by_cases h:j=i
  ·rw[Ah h];exact(Bo (by omega)).symm
  ·rw[Ag h,AS,Ag a]
theorem Chg.toGrown{g:Nat}{w w':World}(h:Chg (fun k=>k=g) w w'):w.grownBy w' (some g):=⟨h.os,h.tape,h.output,h.size,fun k hk a=>h.block k hk (fun e=>a (by rw[e]))⟩
theorem Dk.row{w w':World}{d sb mb n cap:Nat}{S S':List UInt8}{M:Nat->Option (List UInt8)}(h:Dk w d sb mb n S M)(r:Chg (fun k=>k=sb) w w')(p:Row w sb cap S)(C:Row w' sb cap S')(u:S'.length=128 * n):Dk w' d sb mb n S' M:=by
 have j:=h.lt;obtain⟨b,N,B,⟨g,wr,t,H⟩,L,D,o,q⟩:=h;have m:g=cap:=by
  obtain⟨K,x,G,_⟩:=H;obtain⟨O,f,I,_⟩:=p;rw[x] at f;injection f with f
  injection f with f
  rw[<-G,<-I,f]
 rw[m] at t;refine⟨b,u,B,⟨cap,wr,(r.block d j.1 b.1).trans t,C⟩,L,D.same numS (r.block mb j.2.2 (fun e=>b.2.2 e.symm)),o,fun i v z=>?_⟩;obtain⟨y,a,c,F,e,E,J,s⟩:=q i v z;exact⟨y,a,c,F,e,r.bs E (fun A l=>(s A l).2.1),J,s⟩
theorem a5B{w w':World}{b:Array Oper}{rest:List Oper}{o:Oper}{a:Act}{Q:Exit->Act->World->Prop}(c:o.guard=none)(m:Operand)(t:TypeId)
  (i:o.op= .call { callee:=.builtin .clear,args:=#[m],argTypes:=#[t] }) (d:Value) (f:a.eval m=d) (g:∀e,(Builtin.clear_ #[t] e #[d]).run Tryz.prog w= .ok (.tuple #[]) w')
  (h:wpList Tryz.prog b Q rest (a.put o.dst (.tuple #[])) w'):wpList Tryz.prog b Q (o :: rest) a w:=by
 refine BX c fun K hK=>?_
 unfold Oper.wp;simp[execOp,i,resolve,invoke,builtin,f,g,Result.andThen];exact hK _ _ h
theorem a6z{w:World}{d sb mb n:Nat}{S:List UInt8}{M:Nat->Option (List UInt8)}(h:Dk w d sb mb n S M):
  Calls Tryz.prog 62 #[.pointer (some ⟨d,0,none⟩)] w fun e w'=>e= .returned (.tuple #[])/\(∃S',Dk w' d sb mb n S' (fun _=>none)/\∀i,i<n->secOf S' i=sect S M i)/\Chg (fun k=>k=sb∨k=mb) w w':=by
 have HD:=qh h;have a2:=h.lt;have Y:=a2.1;obtain⟨l,hS,hn,⟨cap,a4,B,C⟩,L,hL,p,q⟩:=h;have HH:=qh (aI B (aI C (aI p (aI q hL))));have c1:=a0a B 1;clear B C p q;go_enter Tryz.func62,Tryz.ntmps62;go_wp2_with (first
  | (at_range;refine wpList_range_own _ rfl _ 72 rfl TI64 _ a1m Tryz.underlying72 RH mb L.length _ rfl hL ?_;intro w0 r s ab)
  | go_in)
 go_frame;go_loopw [2] (fun _ wx=>∃(left:Lit->Bool) (J:Nat) (A:List UInt8),wx.ranges Tryz.prog TI64 RH mb w.heap.size L.length (a3o numS L) left J/\Row wx sb cap A/\A.length=128 * n/\
   (∀i,i<n->secOf A i=if left (numS.lit i)=true then secOf S i else sect S M i)/\Chg (fun k=>k=sb) w wx/\w.heap.size<wx.heap.size)
  (fun _ wx=>wx.rangeLeft mb w.heap.size)
 case atStart=>
  obtain⟨B,C,p,q,_⟩:=HH.out;refine⟨_,_,S,r,C.grown s (by simp),hS,fun i Z=>?_,(Chg.refl _ w).grown s (by simp),by omega⟩;rw[a38];cases hg:getK i L with
  | none=>rw [a4z S M i (p i hg)];simp
  | some v=>simp
 case round=>
  obtain⟨left,J,A,g,u,m,f,W,z⟩:=hrel;go_wp2_with (first
   | (at_next;refine wpList_next_ranges _ rfl _ rfl TI64 a1m RH (Value.int .i64) (fun v=>v) (fun af kl hk=>by obtain⟨x,rfl,_⟩:=Maps.keyOf_int_inv Tryz.underlying3 hk;exact⟨x,rfl⟩) (fun v _ _=>⟨v,rfl⟩) mb w.heap.size L.length _ _ _ rfl g ?_ ?_)
   | go_in)
  ·-- nothing is left
   intro _ a9;obtain⟨w2,N,V,G⟩:=MapAt.clear (S:=numS) g.owns Tryz.underlying72 0;have K:∀ty,(Builtin.clear_ #[72] ty #[.map (some mb)]).run Tryz.prog wr= .ok (.tuple #[]) w2:=fun ty=>N
   have ac:=(W.cell Y l.1).trans c1;have D:Chg (fun k=>k=sb∨k=mb) w w2:=(W.mono (fun _ _ h=>.inl h)).trans (a0E G) (fun _ _ h=>.inr h);have HF:Hid ((∃S',Dk w2 d sb mb n S' (fun _=>none)/\∀i,i<n->secOf S' i=sect S M i)/\Chg (fun k=>k=sb∨k=mb) w w2):=by
    obtain⟨B,C,_⟩:=HH.out;refine qh ⟨⟨A,⟨l,m,hn,⟨cap,a4,(D.block d Y (fun e=>e.elim l.1 l.2.1)).trans B,(a0E G).row u l.2.2⟩,[],V,fun _ _=>rfl,fun i v Z=>by simp[getK] at Z⟩,fun i Z=>?_⟩,D⟩;rw[f i Z,Ag (by simp[a9])]
   clear N V G D g u m f W z hL c1 r s HH HD;go_wp2_with (first
    | (at_builtin;refine a5B rfl _ _ rfl _ rfl K ?_)
    | go_in)
   go_end0;exact⟨rfl,HF.out⟩
  ·intro x c kl y ps w1 P T a7 a0 R b aa I E ag;obtain⟨i,rfl,rfl,O⟩:=a4W (y:=(y,ps)) T a0 R;obtain⟨B,C,p,q,a1⟩:=HH.out;obtain⟨Q,a,c',bs,rfl,hB,hM,ha⟩:=q i c O;have o:=W.grown I (fun k hk e=>by injection e with e;omega);have F:=u.grown I (by intro e;injection e with e;omega);have X:=o.bs hB (fun ad a3=>(ha ad a3).2.1);have HA:=qh (b65 (HD.out.row o C F m) i Q);have hX:=qh (aI g (aI b (aI o (aI f (aI m (aI hM (aI F (aI z E))))))));have a5:=qh (show 128 * i+128<=A.length by omega);clear B C p q a1 g b u W o f hM r s hL R a7 O ha I hB c1;go_wp2_with fail;refine HA.out.mono ?_;rintro e w2 ⟨⟨c2,rfl,_⟩,rfl⟩;obtain⟨w3,ae,a6,t⟩:=a72 sb (128 * i) 128 c2 cap A _ _ bs F X (by omega) a5.out;go_wp2_with fail;go_roundw;case rel=>
    obtain⟨_,b,o,f,m,hM,_,z,E⟩:=hX.out;have a8:=X.1;refine⟨_,P,_,b.kept t.toGrown (by intro e;injection e with e;exact l.2.2 e.symm) (by intro e;injection e with e;omega),a6,by rw[length_splice _ _ _ (by omega)];exact m,fun j hj=>?_,o.trans t (fun _ _ h=>h),by have:=t.size;omega⟩;rw[a8Q A n i j bs m Q hj a8];by_cases H:j=i
    ·subst H;rw[Ah rfl,a8P S M j bs hM,Ag (by simp[a1q])]
    ·rw[Ag H,f j hj];simp only[a1q,Aq H,B5,Cu]
   case measure=>
    obtain⟨g,b,_,_,_,_,_,z,E⟩:=hX.out;have U:=b.kept t.toGrown (by intro e;injection e with e;exact l.2.2 e.symm) (by intro e;injection e with e;omega);rw[U.left_eq,g.left_eq];omega
end
section
open Go.RowKit
def catS(S:List UInt8)(M:Nat->Option (List UInt8))(first k:Nat):List UInt8:=((List.range k).map fun j=>sect S M (first+j)).flatten
theorem a6L(S:List UInt8)(M:Nat->Option (List UInt8))(first k:Nat):catS S M first (k+1)=catS S M first k ++sect S M (first+k):=by
 unfold catS;rw[List.range_succ,AZ,AT];simp
theorem Dk.sect_len{w:World}{d sb mb n:Nat}{S:List UInt8}{M:Nat->Option (List UInt8)}(h:Dk w d sb mb n S M)(i:Nat)(p:i<n):(sect S M i).length=128:=by
 obtain⟨_,l,m,_,L,o,b,e⟩:=h;cases f:getK i L with
 | none=>
  rw[a4z S M i (b i f)];unfold secOf;simp;omega
 | some v=>
  obtain⟨_,a,c,g,_,k,j,_⟩:=e i v f;rw[a8P S M i g j];exact k.1
theorem Dk.catS_len{w:World}{d sb mb n:Nat}{S:List UInt8}{M:Nat->Option (List UInt8)}(h:Dk w d sb mb n S M)(first k:Nat)(hk:first+k<=n):(catS S M first k).length=128 * k:=by
 induction k with
 | zero=>rfl
 | succ k a=>rw [a6L,Af,a (by omega),h.sect_len _ (by omega)];omega
theorem Own.ge{w:World}{B:Nat}{v:Value}{xs:List UInt8}(h:Own w B v xs)(k:Nat)(hk:v.ownBlock=some k):B<=k:=by
 rcases h.parts with⟨rfl,_⟩ | ⟨g,cap,rfl,a,_⟩
 ·simp[Value.ownBlock] at hk
 ·have:g=k:=by simpa[Value.ownBlock] using hk
  omega
theorem a6k{w:World}{d sb mb n:Nat}{S:List UInt8}{M:Nat->Option (List UInt8)}(h:Dk w d sb mb n S M)(s p g:Int)(R:isPlan s p g)(i first:Nat)(I:(i:Int)<g)(t:(first:Int)=1+2 * p+i * 8)(x:first+8<=n):
  Calls Tryz.prog 135 #[.pointer (some ⟨d,0,none⟩),.agg #[.int .i64 s,.int .i64 p,.int .i64 g],.int .i64 (i:Int)] w fun e w'=>∃v,e= .returned v/\Own w' w.heap.size v (catS S M first 8)/\Below w.heap.size w w':=by
 have b:n<=4096:=h.2.2.1;have J:=qh (fun w=>a7b s p g (i:Int) w R (by omega) I);rw[<-t] at J;have P:=qh (aI x b);have D:=qh h;clear I t x b h;go_enter Tryz.func135,Tryz.ntmps135;go_wp2_with fail;refine(J.out _).mono ?_;rintro e Y ⟨rfl,hb1⟩;have l:=qh (((Ext.refl w).alloc (.cells #[.int .i64 s,.int .i64 p,.int .i64 g] 47)).step hb1);clear hb1;go_wp2_with fail;go_loopw [9,10] (fun E k wr=>∃j:Nat,j<=8/\k= .int .i64 (j:Int)/\Own wr w.heap.size E (catS S M first j)/\Ext w.heap.size w wr) (fun _ k _=>8 - (intOf k).toNat);case atStart=>exact ⟨0,by omega,rfl,Own.nil _ _,l.out⟩
 case round=>
  obtain⟨j,O,rfl,F,y⟩:=hrel;clear l;by_cases r:j<8
  ·have z:=qh y;obtain⟨x,b⟩:=P.out;have H:=qh (a6H (D.out.below y.1) (first+j) (by omega));have m:=D.out.sect_len (first+j) (by omega);have N:=D.out.catS_len first j (by omega)
   have Q:IntKind.i64.wrap ((first:Int)+(j:Int))=((first+j:Nat):Int):=by rw[Ak _ (by omega)];omega
   have T:IntKind.i64.wrap ((j:Int)+1)=((j+1:Nat):Int):=by rw[Ak _ (by omega)];omega
   obtain⟨q,c⟩:=qnm (first+j);obtain⟨K,a⟩:=qnm (j+1);rw[<-c] at Q H m;rw[<-a] at T;have U:(j:Int)<8:=by omega
   have G:=qh (aI c a);clear x b y O c a r;go_wp2_with fail;refine H.out.mono ?_;rintro e w2 ⟨v,rfl,o,hb2⟩;obtain⟨L,V,rfl,A⟩:=o.bsn (n:=128) m;have u:=F.below hb2;have f:=qh (z.out.step hb2);clear o hb2 F;go_wp2_with (at_builtin;refine a1o rfl _ _ rfl w.heap.size _ _ rfl u L 128 V _ rfl A (by omega) f.out.2 ?_;intro X W C B _);go_roundw;case rel=>
    obtain⟨c,a⟩:=G.out;refine⟨K,by omega,rfl,?_,Ext.grown f.out B (fun k hk=>u.ge k hk)⟩;rw[a,a6L,<-c];exact C
   case measure=>
    obtain⟨c,a⟩:=G.out;show 8 - (K:Int).toNat<8 - (j:Int).toNat;omega
  ·obtain rfl:j=8:=by omega
   clear r;go_wp2_with fail;go_ret;exact⟨_,rfl,F,y.1⟩
section
variable {P : Program}
def Can(P:Program)(w:World)(t:TypeId)(b:List Value):Prop:=
 ∃(H:Type) (enc:TypeId×Value->H) (a:Nat) (x:DataW H×List MemPlace),DataW.trod enc P w 0 (fun _=>true) true a t b=some x
def Arg(P:Program)(w:World)(t:TypeId)(v:Value):Prop:=(∃b r,Value.okWide P w r b t v)/\Can P w t v.cells.toList
theorem Can.int{w:World}{t:TypeId}{b:List Value}{k:IntKind}(h:Can P w t b)(d:P.underlying t=some (.int k)):∃n,b=[.int k n]/\(Lit.int k n).wf=true:=by
 obtain⟨H,enc,a,x,h⟩:=h;obtain⟨n,c,_,h3⟩:=DataW.trod_int d h;exact⟨n,c,h3⟩
theorem Can.string{w:World}{t:TypeId}{b:List Value}(h:Can P w t b)(d:P.underlying t=some .string):∃s:ByteArray,b=[.string s]/\s.size<=maxLen:=by
 obtain⟨H,enc,a,x,h⟩:=h;obtain⟨n,c,_,h3⟩:=DataW.trod_string d h;exact⟨n,c,h3⟩
theorem Can.slice{w:World}{t e:TypeId}{c:List Value}(h:Can P w t c)(p:P.underlying t=some (.slice e)):
  (c=[.slice none 0 0])∨∃(a:Addr) (b cap:Nat),c=[.slice (some a) b cap]/\b<=cap/\cap<=maxLen/\
   ∀i,i<cap->∃cs',w.cells? 0 (a.add (i * P.cellsOf e)) (P.cellsOf e)=some cs'/\Can P w e cs':=by
 obtain⟨H,enc,d,x,h⟩:=h;rcases Deep.open_slice p h with⟨h,_⟩ | ⟨a,b,cap,m,n,D,r,o,_,h3,f,k,_,j⟩
 ·exact .inl h
 ·refine .inr ⟨a,b,cap,o,h3,f,fun i q=>?_⟩;obtain⟨cs',g,l⟩:=j i (by rw[k];exact q);exact⟨cs',g,H,enc,n,_,l⟩
theorem Can.struct{w:World}{t:TypeId}{a:List Value}{c:Array Field}(h:Can P w t a)(j:P.underlying t=some (.struct c)):
  a.length=P.cellsOf t/\∀(i:Nat) (f:Field),c[i]? =some f->Can P w f.type ((a.drop f.offset).take (P.cellsOf f.type)):=by
 obtain⟨H,enc,b,x,h⟩:=h;obtain⟨xs,n,_,_,h3,e,g⟩:=DataW.trod_struct j h;refine⟨h3,fun i f d=>?_⟩;have k:i<xs.length:=by rw[e];exact(Array.getElem?_eq_some_iff.1 d).1
 exact⟨H,enc,n,xs[i],by rw[g i f d];exact List.getElem?_eq_getElem k⟩
theorem a9z{w:World}{a:Addr}{n:Nat}{cs:List Value}(h:w.cells? 0 a n=some cs)(l:0<n):
  ∃b off,a=⟨b,off,none⟩/\b<w.heap.size/\cs.length=n/\∀j (k:j<cs.length),w.cell? ⟨b,off+j,none⟩=some cs[j]:=by
 obtain⟨_,m,h3⟩:=World.cells?_some h;obtain⟨b,off,d⟩:=a;have g:=h3 0 l;simp only[Addr.add,BR] at g;have f:0<cs.length:=by omega
 rw[List.getElem?_eq_getElem f] at g;have c:d=none:=World.cell?_spot g;subst c;refine⟨b,off,rfl,World.block_lt_of_cell? w _ g,m,fun j k=>?_⟩;have e:=h3 j (by omega);have o:(⟨b,off,none⟩:Addr).add j=⟨b,off+j,none⟩:=by by_cases i:j=0 <;>simp [Addr.add,i]
 rw[o] at e;rw[e,List.getElem?_eq_getElem k]
theorem Can.elems{w:World}{t e:TypeId}{q:List Value}(h:Can P w t q)(u:P.underlying t=some (.slice e))(r:0<P.cellsOf e):
  ∃(a:Option Addr) (c cap:Nat),q=[.slice a c cap]/\c<=cap/\cap<=maxLen/\(c=0∨∃b off,a=some ⟨b,off,none⟩/\b<w.heap.size/\
   ∀i,i<c->∃d:List Value,Can P w e d/\d.length=P.cellsOf e/\∀j (C:j<d.length),w.cell? ⟨b,off+i * P.cellsOf e+j,none⟩=some d[j]):=by
 rcases h.slice u with rfl | ⟨a,c,cap,rfl,A,h3,p⟩
 ·exact⟨none,0,0,rfl,Aa _,by simp[maxLen],.inl rfl⟩
 ·refine⟨some a,c,cap,rfl,A,h3,?_⟩;by_cases v:c=0
  ·exact .inl v
  ·obtain⟨x,k,_⟩:=p 0 (by omega);obtain⟨b,off,o,y,_,_⟩:=a9z k r;rw[Nat.zero_mul] at o;have f:a=⟨b,off,none⟩:=by simpa[Addr.add] using o
   subst f;refine .inr ⟨b,off,rfl,y,fun i D=>?_⟩;obtain⟨d,m,B⟩:=p i (by omega);obtain⟨E,s,f,_,n,g⟩:=a9z m r;have z:(⟨b,off,none⟩:Addr).add (i * P.cellsOf e)=⟨b,off+i * P.cellsOf e,none⟩:=by
    by_cases l:i * P.cellsOf e=0 <;>simp [Addr.add,l]
   rw[z] at f;cases f;exact⟨d,B,n,g⟩
theorem Can.bytes{w:World}{t e:TypeId}{j:List Value}(h:Can P w t j)(y:P.underlying t=some (.slice e))(q:P.underlying e=some (.int .u8))(v:P.cellsOf e=1):
  ∃(a:Option Addr) (c cap:Nat) (xs:List UInt8),j=[.slice a c cap]/\Bs w a c cap xs:=by
 obtain⟨a,c,cap,rfl,k,h3,m⟩:=h.elems y (by omega);refine⟨a,c,cap,?_⟩;rcases m with rfl | ⟨b,off,rfl,l,r⟩
 ·exact⟨[],rfl,rfl,k,h3,.inl rfl⟩
 ·have z:∀i,i<c->∃x:UInt8,w.cell? ⟨b,off+i,none⟩=some (.int .u8 (x.toNat:Int)):=fun i d=>by
   obtain⟨s,u,A,g⟩:=r i d;obtain⟨n,rfl,o⟩:=u.int q;have:=g 0 (by simp);rw[v,Nat.mul_one] at this;exact⟨b4K n,by rw[a9A o];simpa using this⟩
  obtain⟨f,p⟩:=Deep.choose_lt z;exact⟨(List.range c).map f,rfl,by simp,k,h3,.inr ⟨b,off,rfl,l,fun i d=>by simp at d;simpa using p i d⟩⟩
theorem Arg.int{w:World}{t:TypeId}{v:Value}{k:IntKind}(h:Arg P w t v)(a:P.underlying t=some (.int k)):∃n,v= .int k n/\(Lit.int k n).wf=true:=by
 obtain⟨⟨b,r,e⟩,c⟩:=h;obtain⟨n,rfl⟩:=WideShapes.okWide_int a e;obtain⟨m,h3,d⟩:=c.int a;simp[Value.cells] at h3;subst h3;exact⟨n,rfl,d⟩
theorem Arg.sliceCan{w:World}{t e:TypeId}{v:Value}(h:Arg P w t v)(d:P.underlying t=some (.slice e)):∃a c cap,v= .slice a c cap/\Can P w t [.slice a c cap]:=by
 obtain⟨⟨b,r,f⟩,g⟩:=h;obtain⟨a,c,cap,rfl⟩:=WideShapes.okWide_slice d f;exact⟨a,c,cap,rfl,by simpa[Value.cells] using g⟩
end
theorem a1t{w w':World}{B n size:Nat}{e:TypeId}{v:Value}{xs:List Value}(h:w.ownsRow B e size v n xs)(a:Below w.heap.size w w'):w'.ownsRow B e size v n xs:=
 h.kept (row:=none) ⟨a.os,a.tape,a.output,a.size,fun k hk _=>a.block k hk⟩ (by cases hv:v.ownBlock <;>simp)
structure Rc where
 k:Int
 q:Nat
 a:Option Addr
 m:Nat
 c:Nat
 ys:List UInt8
instance:Inhabited Rc:=⟨⟨0,0,none,0,0,[]⟩⟩
def Rc.In(w:World)(b o:Nat)(r:Rc):Prop:=
 w.cell? ⟨b,o,none⟩=some (.int .i64 r.k)/\w.cell? ⟨b,o+1,none⟩=some (.int .u64 (r.q:Int))/\w.cell? ⟨b,o+2,none⟩=some (.slice r.a r.m r.c)/\r.q<18446744073709551616/\Bs w r.a r.m r.c r.ys
def Recs(w:World)(a:Option Addr)(c cap:Nat)(ls:List Rc):Prop:=
 ls.length=c/\c<=cap/\cap<=maxLen/\(c=0∨∃b off,a=some ⟨b,off,none⟩/\b<w.heap.size/\∀i (h:i<ls.length),ls[i].In w b (off+i * 3))
theorem Recs.at{w:World}{a:Option Addr}{c cap:Nat}{ls:List Rc}(h:Recs w a c cap ls):
  ∃b off,Hid (0<c->a=some ⟨b,off,none⟩/\b<w.heap.size/\∀i (h:i<ls.length),ls[i].In w b (off+i * 3)):=by
 rcases h.2.2.2 with h | ⟨b,off,d,e,h3⟩
 ·exact⟨0,0,qh fun f=>by omega⟩
 ·exact⟨b,off,qh fun _=>⟨d,e,h3⟩⟩
def fitsN:Nat->List Rc->Nat
 | _,[]=>0
 | left,r :: rs=>if a1Z r.k r.q r.m/\15+r.m<=left then fitsN (left - (15+r.m)) rs+1 else 0
theorem a3R(left:Nat):fitsN left []=0:=by unfold fitsN;rfl
theorem a3l(left:Nat)(r:Rc)(rs:List Rc):fitsN left (r :: rs)=if a1Z r.k r.q r.m/\15+r.m<=left then fitsN (left - (15+r.m)) rs+1 else 0:=by rw[fitsN]
theorem b1k:∀(ls:List Rc) (left:Nat),fitsN left ls<=ls.length
 | [],_=>Aa _
 | r :: rs,left=>by
  unfold fitsN;split
  ·have:=b1k rs (left - (15+r.m));simp;omega
  ·omega
theorem b1j(a:Option Addr)(len cap:Nat)(ls:List Rc)(w:World)(O:Recs w a len cap ls)(hl:len<=1000000):
  Calls Tryz.prog 101 #[.slice a len cap] w fun e w'=>e= .returned (.int .i64 (fitsN 942 ls:Int))/\Below w.heap.size w w':=by
 obtain⟨S,go,P⟩:=O.at;have HL:=qh O.1;clear O;go_enter Tryz.func101,Tryz.ntmps101;go_wp2_with fail;go_loopw [3,8] (fun lf i wr=>∃L k:Nat,L<=942/\k<=len/\lf= .int .i64 (L:Int)/\i= .int .i64 (k:Int)/\fitsN 942 ls=fitsN L (ls.drop k)+k/\Ext w.heap.size w wr) (fun _ i _=>len - (intOf i).toNat);case atStart=>exact ⟨942,0,by omega,by omega,rfl,rfl,rfl,Ext.refl w⟩
 case round=>
  obtain⟨L,k,hL,hk,rfl,rfl,d,C⟩:=hrel;by_cases E:k<len
  ·obtain⟨rfl,A,l⟩:=P.out (by omega);have b:k<ls.length:=by rw[HL.out];exact E
   have hc:=l k b;rw[Bm b] at d;clear l;generalize ls[k]'b=r at hc d;obtain⟨v,z,D,rm,c,a0⟩:=r;obtain⟨u,y,x,hq,hB⟩:=hc;simp only at u y x hq hB;rw[a3l] at d;simp only at d;have J:=(C.1.cell (p:=⟨S,go+k * 3,none⟩) A).trans u;have Q:=(C.1.cell (p:=⟨S,go+k * 3+1,none⟩) A).trans y;have X:=(C.1.cell (p:=⟨S,go+k * 3+2,none⟩) A).trans x;clear u y x hB hq b;have e1:(0:Int)<=(k:Int):=by omega
   have e2:(k:Int)<(len:Int):=by omega
   obtain⟨M,b⟩:=qnm (k+1);have e3:IntKind.i64.wrap ((k:Int)+1)=(M:Int):=by rw[Ak _ (by omega)];omega
   have I:=qh d;have HK:=qh b;have t:=qh (C.alloc (.cells #[.int .i64 v,.int .u64 (z:Int),.slice D rm c] 89));clear d b C hk;by_cases f:a1Z v z rm
   ·have B:=qh (fun w=>a15 v z D rm c w);have F:=qh (fun w=>a95 v z D rm c w);rw[AB f] at B;rw[Ah f] at F;have G:=f.2.1;obtain⟨sz,n⟩:∃sz:Nat,sz=15+rm:=⟨_,rfl⟩
    have s:(15:Int)+(rm:Int)=(sz:Int):=by omega
    rw[s] at F;have T:=qh f;have HZ:=qh (aI n G);clear f n s G;by_cases g:sz<=L
    ·obtain⟨H,q⟩:∃H:Nat,H=L - sz:=⟨_,rfl⟩
     have e4:IntKind.i64.wrap ((L:Int) - (sz:Int))=(H:Int):=by rw[Ak _ (by omega)];omega
     have K:¬(L:Int)<(sz:Int):=by omega
     have U:=qh (aI q g);clear q g;go_wp2_with fail;refine(B.out _).mono ?_;rintro e w1 ⟨rfl,hb1⟩;have Y:w1.cell? ⟨wr.heap.size,0,none⟩=some (.int .i64 v):=a0l hb1 0;have R:w1.cell? ⟨wr.heap.size,1,none⟩=some (.int .u64 (z:Int)):=a0l hb1 1;have N:w1.cell? ⟨wr.heap.size,2,none⟩=some (.slice D rm c):=a0l hb1 2;have m:wr.heap.size<w1.heap.size:=by have:=hb1.size;simp at this;omega
     have j:=qh (t.out.step hb1);clear hb1 J Q X;go_wp2_with fail;refine(F.out _).mono ?_;rintro e w2 ⟨rfl,hb2⟩;have Y:=(hb2.cell (p:=⟨wr.heap.size,0,none⟩) m).trans Y;have R:=(hb2.cell (p:=⟨wr.heap.size,1,none⟩) m).trans R;have N:=(hb2.cell (p:=⟨wr.heap.size,2,none⟩) m).trans N;have o:=qh (j.out.step hb2);clear hb2 j;go_wp2_with fail;refine(F.out _).mono ?_;rintro e w3 ⟨rfl,hb3⟩;have W:=qh (o.out.step hb3);clear hb3 o;go_wp2_with fail;go_roundw;case rel=>
      obtain⟨q,g⟩:=U.out;obtain⟨n,_⟩:=HZ.out;have b:=HK.out;have d:=I.out;rw[Ah ⟨T.out,by omega⟩] at d;refine⟨H,M,by omega,by omega,rfl,rfl,?_,W.out⟩;rw[d,b,q,n];omega
     case measure=>
      have b:=HK.out;show len - (M:Int).toNat<len - (k:Int).toNat;omega
    ·have K:(L:Int)<(sz:Int):=by omega
     have V:=qh g;clear g;go_wp2_with fail;refine(B.out _).mono ?_;rintro e w1 ⟨rfl,hb1⟩;have Y:w1.cell? ⟨wr.heap.size,0,none⟩=some (.int .i64 v):=a0l hb1 0;have R:w1.cell? ⟨wr.heap.size,1,none⟩=some (.int .u64 (z:Int)):=a0l hb1 1;have N:w1.cell? ⟨wr.heap.size,2,none⟩=some (.slice D rm c):=a0l hb1 2;have j:=qh (t.out.step hb1);clear hb1 J Q X;go_wp2_with fail;refine(F.out _).mono ?_;rintro e w2 ⟨rfl,hb2⟩;have o:=qh (j.out.step hb2);clear hb2 j;go_wp2_with fail;go_ret;obtain⟨n,_⟩:=HZ.out;have d:=I.out;have hN:=V.out;rw[Ag (fun h=>by have:=h.2;omega)] at d;exact⟨by rw[d,AD];rfl,o.out.1⟩
   ·have B:=qh (fun w=>a15 v z D rm c w);rw[Aq f] at B;have V:=qh f;clear f;go_wp2_with fail;refine(B.out _).mono ?_;rintro e w1 ⟨rfl,hb1⟩;have j:=qh (t.out.step hb1);clear hb1 J Q X;go_wp2_with fail;go_ret;have d:=I.out;rw[Ag (fun h=>V.out h.1)] at d;exact⟨by rw[d,AD];rfl,j.out.1⟩
  ·obtain rfl:k=len:=by omega
   clear E;have Z:ls.drop k=[]:=Bh (by rw[HL.out];exact Aa _);rw[Z] at d;clear Z;go_wp2_with fail;go_ret;exact⟨by rw[d,a3R,AD];rfl,C.1⟩
abbrev TST:TypeId:=9
abbrev TSS:TypeId:=37
def sv(s:List UInt8):Value:=.string (a0c s)
def Ss(w:World)(a:Option Addr)(c cap:Nat)(ls:List (List UInt8)):Prop:=
 ls.length=c/\c<=cap/\cap<=maxLen/\(c=0∨∃b off,a=some ⟨b,off,none⟩/\b<w.heap.size/\∀i (h:i<ls.length),w.cell? ⟨b,off+i,none⟩=some (.string (a0c ls[i])))
theorem Ss.nil(w:World):Ss w none 0 0 []:=⟨rfl,Aa _,by simp[maxLen],.inl rfl⟩
theorem Ss.below{w w':World}{a:Option Addr}{d cap:Nat}{ls:List (List UInt8)}(h:Ss w a d cap ls)(f:Below w.heap.size w w'):Ss w' a d cap ls:=by
 obtain⟨j,k,h3,c⟩:=h;refine⟨j,k,h3,?_⟩;rcases c with c | ⟨b,off,c,e,g⟩
 ·exact .inl c
 ·exact .inr ⟨b,off,c,Ai e f.size,fun i l=>by rw[f.cell (p:=⟨b,off+i,none⟩) e];exact g i l⟩
theorem Ss.alloc{w:World}{a:Option Addr}{b cap:Nat}{ls:List (List UInt8)}(h:Ss w a b cap ls)(o:Obj):Ss (w.alloc o) a b cap ls:=h.below ((Ab _ _).alloc (Aa _) o)
theorem Ss.take{w:World}{a:Option Addr}{c cap:Nat}{ls:List (List UInt8)}(h:Ss w a c cap ls){k:Nat}(hk:k<=c):Ss w a k cap (ls.take k):=by
 obtain⟨j,l,h3,d⟩:=h;refine⟨by simp;omega,by omega,h3,?_⟩;rcases d with d | ⟨b,off,d,e,f⟩
 ·exact .inl (by omega)
 ·exact .inr ⟨b,off,d,e,fun i g=>by simp at g;rw[f i (by omega)];simp⟩
theorem Ss.at{w:World}{a:Option Addr}{c cap:Nat}{ls:List (List UInt8)}(h:Ss w a c cap ls)(e:0<c):∃b off,a=some ⟨b,off,none⟩/\b<w.heap.size/\∀i (h:i<ls.length),w.cell? ⟨b,off+i,none⟩=some (.string (a0c ls[i])):=by
 rcases h.2.2.2 with d | d
 ·omega
 ·exact d
def OwnS(w:World)(B:Nat)(v:Value)(ls:List (List UInt8)):Prop:=w.ownsRow B TST 1 v ls.length (ls.map sv)
theorem OwnS.nil(w:World)(B:Nat):OwnS w B (.slice none 0 0) []:=A6 w B TST 1
theorem OwnS.lt{w:World}{B:Nat}{v:Value}{ls:List (List UInt8)}(h:OwnS w B v ls):∀k,v.ownBlock=some k->B<=k/\k<w.heap.size:=A8 h
theorem OwnS.ss{w:World}{B n:Nat}{v:Value}{ls:List (List UInt8)}(h:OwnS w B v ls)(f:ls.length=n):∃a cap,v= .slice a n cap/\Ss w a n cap ls:=by
 subst f;have m:=h;rcases h.2 with⟨rfl,b⟩ | ⟨g,cap,k,rfl,p,e,d,l,c,j⟩
 ·obtain rfl:=Ax.1 b;exact⟨none,0,rfl,Ss.nil w⟩
 ·refine⟨some ⟨g,0,none⟩,cap,rfl,rfl,d,l,.inr ⟨g,0,rfl,(Array.getElem?_eq_some_iff.1 e).1,fun i o=>?_⟩⟩;rw[AD,A1 (size:=1) m i (by omega)];simp[sv,o]
theorem OwnS.blk{w:World}{B:Nat}{v:Value}{ls:List (List UInt8)}(h:OwnS w B v ls):∀k,v.ownBlock=some k->B<=k:=fun k hk=>(h.lt k hk).1
theorem b7E:(Tryz.prog.info? TST).map (fun i=>(i.zero,i.size,i.bytes))=some (some (.string ⟨#[]⟩),1,16):=by kernel_rfl
theorem b0x{a :Option TypeInfo}{z:Value}{s b:Nat}(h:a.map (fun i=>(i.zero,i.size,i.bytes))=some (some z,s,b)):∃i,a =some i/\i.zero=some z/\i.size=s/\i.bytes=b:=by
 cases a with
 | none=>cases h
 | some i=>simp at h;exact⟨i,rfl,h.1,h.2.1,h.2.2⟩
end
end Go.Proofs.YtbemfdcjieakdaaGreatDoor
