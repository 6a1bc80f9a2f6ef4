/- Mem; Str; Tools2; Equal; Trim. -/
import Derived.Deep.DeepCutAuto
import Derived.Deep.RegionLaw
import Derived.Maps.AppendAt
import Derived.Test.YtbemfdcjieakdaaGreatDoorK02
set_option maxRecDepth 100000
set_option maxHeartbeats 8000000
namespace Go.Proofs.YtbemfdcjieakdaaGreatDoor
section
open Go.RowKit
structure Chg (S:Nat->Prop) (w w':World):Prop where
 os:w'.os=w.os
 tape:w'.tape=w.tape
 output:w'.output=w.output
 size:w.heap.size<=w'.heap.size
 block:∀k,k<w.heap.size->¬S k->w'.heap[k]? =w.heap[k]?
theorem Chg.refl(S:Nat->Prop)(w:World):Chg S w w:=⟨rfl,rfl,rfl,Aa _,fun _ _ _=>rfl⟩
theorem Chg.trans{S S':Nat->Prop}{a b c:World}(h:Chg S a b)(k:Chg S' b c)(g:∀i,i<a.heap.size->S' i->S i):Chg S a c:=
 ⟨k.os.trans h.os,k.tape.trans h.tape,k.output.trans h.output,Ad h.size k.size,fun i d e=>
  (k.block i (Ai d h.size) (fun f=>e (g i d f))).trans (h.block i d e)⟩
theorem Chg.mono{S S':Nat->Prop}{a b:World}(h:Chg S a b)(c:∀i,i<a.heap.size->S i->S' i):Chg S' a b:=(Chg.refl S' a).trans h c
theorem Chg.of_below{w w':World}(h:Below w.heap.size w w')(S:Nat->Prop):Chg S w w':=⟨h.os,h.tape,h.output,h.size,fun k hk _=>h.block k hk⟩
theorem Chg.below{S:Nat->Prop}{w w':World}{B:Nat}(h:Chg S w w')(c:B<=w.heap.size)(b:∀k,k<w.heap.size->S k->B<=k):Below B w w':=
 ⟨h.os,h.tape,h.output,h.size,fun k hk=>h.block k (by omega) (fun a=>by have:=b k (by omega) a;omega)⟩
theorem Chg.alloc{S:Nat->Prop}{a w:World}(h:Chg S a w)(o:Obj):Chg S a (w.alloc o):=h.trans (Chg.of_below ((Ab _ _).alloc (Aa _) o) (fun _=>False)) (fun _ _ h=>h.elim)
theorem Chg.drew{S:Nat->Prop}{a w:World}(h:Chg S a w):Chg S a w.drew:=⟨h.os,h.tape,h.output,h.size,h.block⟩
theorem Chg.step{S:Nat->Prop}{a w w':World}(h:Chg S a w)(b:Below w.heap.size w w'):Chg S a w':=h.trans (Chg.of_below b (fun _=>False)) (fun _ _ h=>h.elim)
theorem Chg.setCell{S:Nat->Prop}{a w:World}(h:Chg S a w){p:Addr}(b:p.block<a.heap.size->S p.block)(u:Value):Chg S a (w.setCell p u):=
 h.trans (S':=fun k=>k=p.block) ⟨rfl,rfl,rfl,by simp[World.setCell],fun k _ hk=>A5 _ _ _ _ hk⟩ (fun i c e=>by subst e;exact b c)
theorem Chg.grown{S:Nat->Prop}{a w w':World}{row:Option Nat}(h:Chg S a w)(b:w.grownBy w' row)(d:∀k,k<a.heap.size->row=some k->S k):Chg S a w':=
 h.trans (S':=fun k=>row=some k) ⟨b.os,b.tape,b.output,b.size,fun k hk c=>b.block k hk (fun e=>c e.symm)⟩ d
theorem Chg.cell{S:Nat->Prop}{w w':World}(h:Chg S w w'){b o:Nat}(c:b<w.heap.size)(d:¬S b):w'.cell? ⟨b,o,none⟩=w.cell? ⟨b,o,none⟩:=Cc (a:=⟨b,o,none⟩) (h.block b c d)
theorem Chg.row{S:Nat->Prop}{w w':World}(h:Chg S w w'){g cap:Nat}{xs:List UInt8}(a:Row w g cap xs)(b:¬S g):Row w' g cap xs:=a.of_heap (h.block g a.lt b)
theorem Chg.bs{S:Nat->Prop}{w w':World}(h:Chg S w w'){a:Option Addr}{c cap:Nat}{xs:List UInt8}(k:Bs w a c cap xs)(j:∀e,a=some e->¬S e.block):Bs w' a c cap xs:=by
 obtain⟨l,m,h3,d⟩:=k;refine⟨l,m,h3,?_⟩;rcases d with d | ⟨b,off,rfl,f,g⟩
 ·exact .inl d
 ·exact .inr ⟨b,off,rfl,Ai f h.size,fun i n=>by rw[h.cell f (j _ rfl)];exact g i n⟩
theorem Chg.own{S:Nat->Prop}{w w':World}(h:Chg S w w'){B:Nat}{v:Value}{xs:List UInt8}(d:Own w B v xs)(b:∀k,v.ownBlock=some k->¬S k):Own w' B v xs:=by
 rcases d.parts with⟨rfl,rfl⟩ | ⟨g,cap,rfl,c,a⟩
 ·exact Own.nil _ _
 ·exact Own.of_row (h.row a (b g rfl)) c
theorem a5F{w:World}(B:Nat)(v:Value)(xs:List UInt8)(a:Own w B v xs)(g:Option Addr)(m c:Nat)(ys:List UInt8)(o:Bs w g m c ys)(k:TypeId)
  (p:xs.length+m<=140737488355328) (b:B<=w.heap.size):
  ∃d w',(Builtin.append_ #[30,30] k #[v,.slice g m c]).run Tryz.prog w= .ok d w'/\Own w' B d (xs ++ys)/\w.grownBy w' v.ownBlock/\
   (d= .slice none 0 0↔v= .slice none 0 0/\m=0)/\(d.ownBlock=v.ownBlock∨d.ownBlock=some w.heap.size):=by
 obtain⟨i,n,j,h,l⟩:=info_parts b1c;have r:=o.1;rcases o.news with⟨rfl,rfl,rfl⟩ | ⟨g,rfl,e⟩
 ·have f:=a1a (P:=Tryz.prog) (w:=w) B 30 k TB i 1 Tryz.underlying30 n v _ c _ a;exact⟨v,w,f,by simpa using a,⟨rfl,rfl,rfl,Aa _,fun _ _ _=>rfl⟩,by simp,.inl rfl⟩
 ·obtain⟨d,w',q,t,h3,s,z⟩:=run_append_own_at (P:=Tryz.prog) w B 30 k TB i (.int .u8 0) 1 1 Tryz.underlying30 n j h l rfl (by decide) v xs.length (xs.map bv) a g m c (ys.map bv) (by simp;omega) e (by
   intro u x;obtain⟨y,_,rfl⟩:=AX.1 x;rfl) (by unfold maxLen;omega) (by omega) b
  exact⟨d,w',q,by subst r;unfold Own;simpa using t,h3,s,z⟩
theorem a5p{w:World}{o:Oper}{a:Act}{K:Act->World->Prop}{Q:Exit->Act->World->Prop}(s x:Operand)
  (i:o.op= .call { callee:=.builtin .append,args:=#[s,x],argTypes:=#[30,30] })
  (B:Nat) (v:Value) (xs:List UInt8) (q:a.eval s=v) (f:Own w B v xs)
  (g:Option Addr) (m c:Nat) (ys:List UInt8) (k:a.eval x= .slice g m c) (p:Bs w g m c ys)
  (e:xs.length+m<=140737488355328) (b:B<=w.heap.size)
  (h:∀d w',Own w' B d (xs ++ys)->w.grownBy w' v.ownBlock->(d.ownBlock=v.ownBlock∨d.ownBlock=some w.heap.size)->K (a.put o.dst d) w'):o.wp Tryz.prog a w K Q:=by
 obtain⟨d,w',l,n,h3,_,j⟩:=a5F B v xs f g m c ys p o.type e b;unfold Oper.wp execOp;simp only[i,resolve,invoke,builtin,Cs,Cr,BJ,BO,Au,Bf,q,k,l];exact h d w' n h3 j
theorem a1x{w:World}{e:Array Oper}{rest:List Oper}{o:Oper}{a:Act}{Q:Exit->Act->World->Prop}(i:o.guard=none)(s x:Operand)
  (k:o.op= .call { callee:=.builtin .append,args:=#[s,x],argTypes:=#[30,30] })
  (B:Nat) (v:Value) (xs:List UInt8) (r:a.eval s=v) (f:Own w B v xs)
  (j:Option Addr) (m c:Nat) (ys:List UInt8) (l:a.eval x= .slice j m c) (q:Bs w j m c ys)
  (g:xs.length+m<=140737488355328) (b:B<=w.heap.size)
  (h:∀d w',Own w' B d (xs ++ys)->w.grownBy w' v.ownBlock->(d.ownBlock=v.ownBlock∨d.ownBlock=some w.heap.size)->wpList Tryz.prog e Q rest (a.put o.dst d) w'):wpList Tryz.prog e Q (o :: rest) a w:=
 BX i fun _ hK=>a5p s x k B v xs r f j m c ys l q g b fun d w' n p h3=>hK _ _ (h d w' n p h3)
theorem a2l{w:World}{j:Array Oper}{o:Oper}{a:Act}{K:Act->World->Prop}{Q:Exit->Act->World->Prop}{E:Prop}(g:o.guard=none)(s x:Operand)
  (k:o.op= .call { callee:=.builtin .append,args:=#[s,x],argTypes:=#[30,30] })
  (B:Nat) (v:Value) (xs:List UInt8) (p:a.eval s=v) (e:Own w B v xs)
  (i:Option Addr) (m c:Nat) (ys:List UInt8) (l:a.eval x= .slice i m c) (n:Bs w i m c ys)
  (d:xs.length+m<=140737488355328) (b:B<=w.heap.size)
  (h:∀f w',Own w' B f (xs ++ys)->w.grownBy w' v.ownBlock->(f.ownBlock=v.ownBlock∨f.ownBlock=some w.heap.size)->K (a.put o.dst f) w'):
  if Region.wanted o (yielded j a.tmps)=true then Oper.wp Tryz.prog o a w K Q else E:=by
 rw[Ah (by simp[Region.wanted,g])];exact a5p s x k B v xs p e i m c ys l n d b h
def a0c(xs:List UInt8):ByteArray:=⟨xs.toArray⟩
theorem a0X(xs:List UInt8):(a0c xs).toList=xs:=by rw[ByteArray.toList_eq];rfl
theorem a09{w:World}{a:Option Addr}{b cap:Nat}{xs:List UInt8}(h:Bs w a b cap xs):(convert 30 9 (.slice a b cap)).run Tryz.prog w= .ok (.string (a0c xs)) w:=by
 rcases h.news with⟨rfl,rfl,rfl⟩ | ⟨c,rfl,d⟩
 ·exact run_convert_bytes_nil w 30 5 Tryz.underlying30 Tryz.underlying5 _ _ 9 Tryz.underlying9
 ·obtain rfl:=h.1;refine run_convert_bytes_back w 30 9 5 c cap xs Tryz.underlying30 Tryz.underlying5 Tryz.underlying9 fun j e=>d j _ ?_
  simp[e,bv]
theorem Own.bsn{w:World}{B n:Nat}{v:Value}{xs:List UInt8}(h:Own w B v xs)(b:xs.length=n):∃a cap,v= .slice a n cap/\Bs w a n cap xs:=by
 subst b;exact h.bs
theorem a0a{w:World}{b:Nat}{a:Array Value}{t:TypeId}{c:Nat×Nat}(h:w.heap[b]? =some (.cells a t c))(i:Nat):w.cell? ⟨b,i,none⟩=a[i]?:=by
 simp only[World.cell?,h];rfl
theorem a0f{w:World}{b k:Nat}{y:Value}{a:Array Value}{t:TypeId}(h:w.heap[b]? =some (.cells a t (0,0))):(w.setCell ⟨b,k,none⟩ y).heap[b]? =some (.cells (a.setIfInBounds k y) t (0,0)):=by
 simp[World.setCell,Array.getElem?_modify,h]
theorem a6K{w:World}{b Z k:Nat}{y:Value}{o:Option Obj}(h:w.heap[b]? =o)(a:b≠Z):(w.setCell ⟨Z,k,none⟩ y).heap[b]? =o:=
 (A5 _ _ _ _ (show b≠(⟨Z,k,none⟩:Addr).block from a)).trans h
theorem b2G{j l:Nat}(h:j<l)(a:l<=maxLen):wrap64 ((j:Int)+1)=(j:Int)+1:=by
 have b:(l:Int)<=9223372036854775807:=by
  have:((maxLen:Nat):Int)=9223372036854775807:=by decide+kernel
  omega
 apply IntWalk.wrap64_in;constructor <;>omega
theorem b3Z{l j:Nat}(h:j<l):l - (intOf (.int .i64 ((j:Int)+1))).toNat<l - (intOf (.int .i64 (j:Int))).toNat:=by
 have e:((j:Int)+1).toNat=j+1:=by omega
 simp only[intOf];rw[e,Int.toNat_natCast];omega
theorem b4h(z u:Option Addr)(l1 t D E:Nat)(xs ys:List UInt8)(w:World)(d:Bs w z l1 D xs)(n:Bs w u t E ys):
  Calls Tryz.prog 56 #[.slice z l1 D,.slice u t E] w fun e w'=>e= .returned (.bool (decide (xs=ys)))/\Below w.heap.size w w':=by
 have M:=d.1;have Q:=n.1;have x:=d.2.1;have P:=n.2.1;have U:=qh (Ad x d.2.2.1);obtain⟨r,B⟩:=qnm (decide (xs=ys));rw[<-B];have g:=qh B;clear B;by_cases K:l1=t
 ·subst K;obtain⟨G,R,H⟩:∃b o,Hid (0<l1->z=some ⟨b,o,none⟩/\∀i (h:i<xs.length),w.cell? ⟨b,o+i,none⟩=some (.int .u8 (xs[i].toNat:Int))):=by
   rcases d.2.2.2 with h | ⟨b,off,m,s,l⟩
   ·exact⟨0,0,qh fun L=>by omega⟩
   ·exact⟨b,off,qh fun _=>⟨m,l⟩⟩
  obtain⟨T,I,J⟩:∃b o,Hid (0<l1->u=some ⟨b,o,none⟩/\∀i (h:i<ys.length),w.cell? ⟨b,o+i,none⟩=some (.int .u8 (ys[i].toNat:Int))):=by
   rcases n.2.2.2 with h | ⟨b,off,m,s,l⟩
   ·exact⟨0,0,qh fun L=>by omega⟩
   ·exact⟨b,off,qh fun _=>⟨m,l⟩⟩
  have A:((l1:Int) != (l1:Int))=false:=by simp
  clear d n;go_enter Tryz.func56,Tryz.ntmps56;go_wp2_with fail;go_loopw [13] (fun i wr=>∃j:Nat,j<=l1/\i= .int .i64 j/\(∀b o,wr.cell? ⟨b,o,none⟩=w.cell? ⟨b,o,none⟩)/\Below w.heap.size w wr/\xs.take j=ys.take j) (fun i _=>l1 - (intOf i).toNat);case atStart=>exact ⟨0,by omega,rfl,fun _ _=>rfl,Ab _ _,by simp⟩
  case round=>
   obtain⟨j,X,rfl,q,c,p⟩:=hrel;have y:=qh q;have C:=qh p;clear q p;by_cases k:j<l1
   ·obtain⟨m,s⟩:=H.out (by omega);obtain⟨l,F⟩:=J.out (by omega);subst m l;have Z:=(y.out G (R+j)).trans (s j (by omega));have Y:=(y.out T (I+j)).trans (F j (by omega));have S:wrap64 ((j:Int)+1)=(j:Int)+1:=b2G k U.out;have W:(0:Int)<=(j:Int):=by omega
    have V:(j:Int)<(l1:Int):=by omega
    clear s F;by_cases f:xs[j]=ys[j]
    ·have N:(((xs[j]'(by omega)).toNat:Int) != ((ys[j]'(by omega)).toNat:Int))=false:=by rw[f];simp
     have O:=qh f;clear f;go_wp2_with fail;go_region;go_wp2_with fail;go_roundw;case rel=>exact ⟨j+1,by omega,by go_num,fun b o=>(y.out b o),c.drew,by rw[Ar (by omega),Ar (by omega),C.out,O.out]⟩
     case measure=>rw [S];exact b3Z k
    ·have N:(((xs[j]'(by omega)).toNat:Int) != ((ys[j]'(by omega)).toNat:Int))=true:=by
      rw[BG];intro h;exact f (Cj.1 (by omega))
     have a:r=false:=by
      rw[g.out,decide_eq_false_iff_not];intro h;subst h;exact f rfl
     subst a;clear g f;go_wp2_with fail;go_region;go_wp2_with fail;go_ret;exact⟨rfl,c.drew⟩
   ·obtain rfl:j=l1:=by omega
    have v:r=true:=by
     rw[g.out,Cm];have:=C.out
     rwa [Am (by omega),Am (by omega)] at this
    subst v;go_wp2_with fail;go_ret;exact⟨rfl,c⟩
 ·have A:((l1:Int) != (t:Int))=true:=by rw[BG];omega
  have a:r=false:=by
   rw[g.out,decide_eq_false_iff_not];intro h;subst h;omega
  subst a;clear d n g;go_enter Tryz.func56,Tryz.ntmps56;go_wp2_with fail;go_ret;exact⟨rfl,Ab _ _⟩
def a5I(l:List UInt8):Bool:=l.all (· == 0)
theorem a88(x:UInt8)(l:List UInt8):a5I (x :: l)=((x == 0) && a5I l):=rfl
theorem b3N{xs:List UInt8}{j:Nat}(b:j<xs.length)(a:xs[j]=0)(h:a5I (xs.drop (j+1))=true):a5I (xs.drop j)=true:=by
 rw[Bm b,a88,a,h];rfl
theorem b5T{xs:List UInt8}{j:Nat}(b:j<xs.length)(a:xs[j]≠0):a5I xs=false:=by
 unfold a5I;rw[List.all_eq_false];exact⟨xs[j],AE _,by simp[a]⟩
theorem a87{xs:List UInt8}{j:Nat}(h:xs.getD j 0≠0):a5I xs=false:=by
 by_cases a:j<xs.length
 ·exact b5T a (by rwa [List.getD_eq_getElem?_getD,List.getElem?_eq_getElem a] at h)
 ·exact absurd (by rw[List.getD_eq_getElem?_getD,Bo (by omega)];rfl) h
def b7j:Value->Nat
 | .slice _ k _=>k
 | _=>0
theorem a3s(a:Option Addr)(k c:Nat):b7j (.slice a k c)=k:=rfl
theorem b4J{x:UInt8}(h:x≠0):((x.toNat:Int) == 0)=false:=by
 rw[Al];intro e;exact h (Cj.1 (by
   have:x.toNat=0:=by omega
   rw[this];rfl))
theorem b2T(a:Option Addr)(d cap:Nat)(xs:List UInt8)(w:World)(h:Bs w a d cap xs):
  Calls Tryz.prog 213 #[.slice a d cap,.int .u8 0] w fun e w'=>(∃k,e= .returned (.slice a k cap)/\k<=d/\a5I (xs.drop k)=true/\(0<k->∃i,i<k/\xs.getD i 0≠0))/\w=w':=by
 have l:=h.1;have u:=h.2.1;have c:=h.2.2.1;obtain⟨b,off,v⟩:∃b o,Hid (0<d->a=some ⟨b,o,none⟩/\∀i (h:i<xs.length),w.cell? ⟨b,o+i,none⟩=some (.int .u8 (xs[i].toNat:Int))):=by
  rcases h.2.2.2 with h | ⟨b,off,y,C,x⟩
  ·exact⟨0,0,qh fun E=>by omega⟩
  ·exact⟨b,off,qh fun _=>⟨y,x⟩⟩
 have t:=qh l;have A:=qh c;clear h l c;go_enter Tryz.func213,Tryz.ntmps213;go_wp2_with fail;go_loopw [0] (fun s wr=>∃k:Nat,s= .slice a k cap/\k<=d/\Hid (a5I (xs.drop k)=true)/\w=wr) (fun s _=>b7j s);case atStart=>exact ⟨d,rfl,Aa _,qh (by rw[Bh (by rw[t.out];exact Aa _)];rfl),rfl⟩
 case round=>
  obtain⟨k,rfl,hk,p,rfl⟩:=hrel;by_cases r:k=0
  ·subst r;go_wp2_with fail;go_ret;exact⟨⟨0,rfl,by omega,p.out,fun h=>by omega⟩,rfl⟩
  ·obtain⟨j,q⟩:∃j,k=j+1:=⟨k - 1,by omega⟩
   have c:=A.out;unfold maxLen at c;have K:IntKind.i64.wrap ((k:Int) - 1)=(j:Int):=by rw[Ak _ (by omega)];omega
   have F:(0:Int)<(k:Int):=by omega
   have D:(0:Int)<=(j:Int):=by omega
   have G:(j:Int)<(k:Int):=by omega
   have I:(j:Int)<=(cap:Int):=by omega
   have J:j<=cap:=by omega
   obtain⟨rfl,z⟩:=v.out (by omega);have f:j<xs.length:=by rw[t.out];omega
   have H:=z j f;have m:=qh q;clear z q r c;by_cases g:xs[j]=0
   ·have B:(((xs[j]'f).toNat:Int) == 0)=true:=by rw[g];rfl
    have n:=qh g;clear g;go_wp2_with fail;go_roundw;case rel=>exact ⟨j,rfl,by have:=m.out;omega,qh (b3N f n.out (by rw[<-m.out];exact p.out)),by first | rfl | trivial⟩
    case measure=>rw [a3s,a3s];have:=m.out;omega
   ·have B:=b4J g;have n:=qh g;clear g;go_wp2_with fail;go_ret;exact⟨⟨k,rfl,hk,p.out,fun _=>⟨j,by have:=m.out;omega,by simpa[List.getElem?_eq_getElem f] using n.out⟩⟩,rfl⟩
theorem b2U(a:Option Addr)(c cap:Nat)(xs:List UInt8)(w:World)(h:Bs w a c cap xs)(q:0<c->a5I xs=false):
  Calls Tryz.prog 212 #[.slice a c cap,.int .u8 0] w fun e w'=>(∃m k d,e= .returned (.slice m k d)/\(k=0↔c=0))/\w=w':=by
 have I:=qh q;have HB:=qh h;clear h q;go_enter Tryz.func212,Tryz.ntmps212;go_wp2_with fail;go_loopw [0] (fun s wr=>∃m k d ys,s= .slice m k d/\Hid (Bs w m k d ys)/\Hid (k=0↔c=0)/\Hid (0<k->a5I ys=false)/\w=wr) (fun s _=>b7j s);case atStart=>exact ⟨a,c,cap,xs,rfl,HB,qh Iff.rfl,I,rfl⟩
 case round=>
  obtain⟨m,k,d,ys,rfl,r,v,A,rfl⟩:=hrel;by_cases t:k=0
  ·subst t;go_wp2_with fail;go_ret;refine⟨?_,?_⟩
   ·exact⟨none,0,⟨0,rfl⟩,by simpa using v.out⟩
   ·first | rfl | trivial
  ·have u:=r.out;rcases u.2.2.2 with h | ⟨b,off,rfl,N,H⟩
   ·exact absurd h t
   ·have i:=u.1;have K:=u.2.1;have P:(0:Int)<(k:Int):=by omega
    have O:(1:Int)<=(k:Int):=by omega
    have Q:1<=k:=by omega
    have f:=H 0 (by omega);rw[BT] at f;have E:¬k=0:=t;have F:((k:Int) == 0)=false:=by rw[Al];omega
    have x:=A.out (by omega);cases ys with
    | nil=>simp at i;omega
    | cons y ys=>
     have R:w.cell? ⟨b,off,none⟩=some (.int .u8 (y.toNat:Int)):=f;rw[a88] at x;have C:=qh i;have G:=qh x;clear H t f i x u;by_cases j:y=0
     ·have M:((y.toNat:Int) == 0)=true:=by rw[j];rfl
      have D:=r.out.drop (k:=1) (by omega);have n:k - 1=0->False:=fun h=>by
       have J:=C.out;have p:=G.out;rw[AA] at J;have:ys=[]:=Bw (by omega);subst this;rw[j] at p;simp[a5I] at p
      have l:a5I ys=false:=by have p:=G.out;rw[j] at p;simpa using p
      obtain⟨ad,g⟩:∃ad,(if d=1 then(some ⟨b,off,none⟩:Option Addr) else(some ⟨b,off,none⟩:Option Addr).map (·.add 1))=ad:=⟨_,rfl⟩
      rw[g] at D;have L:=qh D;have o:=qh n;have z:=qh l;clear j D n l;by_cases B:d=1
      ·exact absurd (show k - 1=0 by omega) o.out
      ·rw[Ag B] at g;subst g;go_wp2_with fail;go_roundw;case rel=>exact ⟨_,k - 1,d - 1,ys,rfl,L,qh ⟨fun h=>(o.out h).elim,fun h=>by have:=v.out.2 h;omega⟩,qh (fun _=>z.out),by first | rfl | trivial⟩
       case measure=>rw [a3s,a3s];omega
     ·have M:=b4J j;clear j;go_wp2_with fail;go_ret;exact⟨⟨_,k,_,rfl,v.out⟩,rfl⟩
theorem b7d(a:Option Addr)(b cap:Nat)(xs:List UInt8)(w:World)(h:Bs w a b cap xs):
  Calls Tryz.prog 213 #[.slice a b cap,.int .u8 0] w fun e w'=>(∃k,e= .returned (.slice a k cap)/\k<=b/\a5I (xs.drop k)=true/\(0<k->∃i,i<k/\xs.getD i 0≠0))/\Below w.heap.size w w':=
 (b2T a b cap xs w h).mono fun e w' ⟨c,d⟩=>⟨c,by rw[<-d];exact Ab _ _⟩
theorem b7e(a:Option Addr)(b cap:Nat)(xs:List UInt8)(w:World)(h:Bs w a b cap xs)(c:0<b->a5I xs=false):
  Calls Tryz.prog 212 #[.slice a b cap,.int .u8 0] w fun e w'=>(∃d k f,e= .returned (.slice d k f)/\(k=0↔b=0))/\Below w.heap.size w w':=
 (b2U a b cap xs w h c).mono fun e w' ⟨g,i⟩=>⟨g,by rw[<-i];exact Ab _ _⟩
theorem b2V(xs:List UInt8)(k:Nat)(c:0<k->∃i,i<k/\xs.getD i 0≠0):0<k->a5I (xs.take k)=false:=fun h=>by
 obtain⟨i,a,b⟩:=c h;refine a87 (j:=i) ?_;rw[List.getD_eq_getElem?_getD,AS,Ah a,<-List.getD_eq_getElem?_getD];exact b
theorem b5i(xs:List UInt8)(k c:Nat)(b:a5I (xs.drop k)=true)(e:0<k->∃i,i<k/\xs.getD i 0≠0)(a:c=0↔k=0):0<c↔a5I xs=false:=by
 constructor
 ·intro h;obtain⟨i,_,f⟩:=e (by omega);exact a87 f
 ·intro h;refine Nat.pos_of_ne_zero fun d=>?_
  rw[a.1 d,BP,h] at b;cases b
theorem a7S(a:Option Addr)(d cap:Nat)(xs:List UInt8)(w:World)(h:Bs w a d cap xs):
  Calls Tryz.prog 136 #[.slice a d cap,.string ⟨#[0]⟩] w fun e w'=>(∃o k p,e= .returned (.slice o k p)/\(0<k↔a5I xs=false))/\Below w.heap.size w w':=by
 by_cases q:d=0
 ·subst q;have j:xs=[]:=Bw h.1;subst j;go_enter Tryz.func136,Tryz.ntmps136;go_wp2_with fail;go_ret;exact⟨⟨_,0,_,rfl,by simp[a5I]⟩,Ab _ _⟩
 ·have v:((d:Int) == 0)=false:=by rw[Al];omega
  have y:(((⟨#[0]⟩:ByteArray)[0]'(by decide)).toNat:Int)=0:=rfl;have f:=h;have g:=Ext.refl w;clear h;go_enter Tryz.func136,Tryz.ntmps136;go_upto_region 6 with fail
  obtain⟨wd,i⟩:=qnm w.drew;have c:Below w.heap.size w wd:=by rw[i];exact(Ab _ _).drew
  have f:=f.below c;have g:=g.step c;clear c;refine a2J (by kernel_rfl) (fun hHeld=>?_);rw[<-i] at hHeld⊢;clear i;refine qth 0 21 ?_;refine qth 1 22 ?_;refine qth 2 23 ?_;refine qth 4 25 ?_;refine qth 5 26 ?_;refine qrd 3 fun K hK=>?_
  go_simp;refine(b7d _ _ _ xs _ (f.below hHeld)).mono ?_;rintro e x ⟨⟨k,rfl,hk,u,n⟩,c⟩;have b:=HB.trans hHeld c;have f:=f.below b;have g:=g.step b;have l:=f.take hk;have r:=b2V xs k n;go_wp2_with fail;refine hK.out _ _ b (fun _=>a2r b (fun hHeld2=>?_));clear hK hHeld c b K;have hHeld:=hHeld2;clear hHeld2;refine qrd 6 fun K hK=>?_
  go_simp;refine(b7e _ _ _ _ _ l r).mono ?_;rintro e t ⟨⟨o,s,p,rfl,m⟩,c⟩;have b:=HB.trans hHeld c;have f:=f.below b;have g:=g.step b;have l:=l.below b;go_wp2_with fail;refine hK.out _ _ b (fun _=>a2r b (fun hHeld2=>?_));clear hK hHeld c b K;have hHeld:=hHeld2;clear hHeld2;refine qth 7 4 ?_;refine Bn (by kernel_rfl) ?_ _;go_wp2_with fail;go_ret;exact⟨⟨_,_,_,rfl,b5i xs k s u n m⟩,(g.step hHeld).1⟩
end
end Go.Proofs.YtbemfdcjieakdaaGreatDoor
