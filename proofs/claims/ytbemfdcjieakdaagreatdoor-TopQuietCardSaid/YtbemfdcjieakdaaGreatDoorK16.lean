/- Path; Sclone; Path2; TreeLook. -/
import Derived.Test.YtbemfdcjieakdaaGreatDoorK11
import Derived.Test.YtbemfdcjieakdaaGreatDoorK15
set_option maxRecDepth 100000
set_option maxHeartbeats 8000000
namespace Go.Proofs.YtbemfdcjieakdaaGreatDoor
section
open Go.RowKit
theorem b4a(r:UInt8):a6Y r=true↔(97<=(r.toNat:Int)/\(r.toNat:Int)<=122)∨(48<=(r.toNat:Int)/\(r.toNat:Int)<=57)∨(r.toNat:Int)=46∨(r.toNat:Int)=45∨(r.toNat:Int)=95:=by
 have a:∀(k:UInt8),(r == k)=true↔(r.toNat:Int)=(k.toNat:Int):=fun k=>by
  rw[Cz];constructor
  ·rintro rfl;rfl
  ·intro h;exact Cj.1 (by omega)
 unfold a6Y;simp only[Bool.or_eq_true,Ca,decide_eq_true_eq,a,UInt8.le_iff_toNat_le];simp only[show(97:UInt8).toNat=97 from rfl,show (122:UInt8).toNat=122 from rfl,show (48:UInt8).toNat=48 from rfl,show (57:UInt8).toNat=57 from rfl,show (46:UInt8).toNat=46 from rfl,show (45:UInt8).toNat=45 from rfl,show (95:UInt8).toNat=95 from rfl];omega
theorem b1e(s:List UInt8)(N:s.length<=1000000)(w:World):
  Calls Tryz.prog 295 #[.string (a0c s)] w fun e w'=>e= .returned (.bool (goodN s))/\Below w.heap.size w w':=by
 have O:=a4B s w;have p:=a5P w s (by unfold maxLen;omega);have H:=qh (show Ext w.heap.size w (b2v w s) from⟨a2R w s,(a2R w s).size⟩);obtain⟨cap,o⟩:=qnm (a3C w s);obtain⟨W,q⟩:=qnm (b2v w s);obtain⟨n,u⟩:=qnm s.length;rw[<-o,<-q,<-u] at O;rw[<-o,<-q,<-u] at p;rw[<-q] at H;have V:=qh u;have HB:=qh p;have I:∀x:List UInt8,((a0c s).toList == x)=(s == x):=fun x=>by rw[a0X]
 clear o q u p;go_enter Tryz.func295,Tryz.ntmps295;go_wp2_with fail;go_loopw [8] (fun i wr=>∃k:Nat,k<=n/\i= .int .i64 (k:Int)/\wr=W/\(s.take k).all a6Y=true) (fun i _=>n - (intOf i).toNat);case atStart=>exact ⟨0,by omega,rfl,rfl,by simp⟩
 case round=>
  obtain⟨k,hk,rfl,rfl,d⟩:=hrel;have u:=V.out;have J:=qh d;clear d;by_cases L:k<n
  ·have f:k<s.length:=by omega
   have z:=BH f;have l:wr.cell? ⟨w.heap.size,k,none⟩=some (.int .u8 (s[k].toNat:Int)):=by
    rcases HB.out.2.2.2 with h0 | ⟨b,off,C,h2,h3⟩
    ·omega
    ·injection C with C;injection C with C K;subst C K;have:=h3 k f;rwa [AD] at this
   have j:∀g,s.all g=true->g s[k]=true:=fun g B=>(Br.1 B) _ (AE f)
   have a:=b4a s[k];have v:=s[k].toNat_lt;generalize s[k]=r at l z j a v;obtain⟨c,R⟩:∃c:Int,c=(r.toNat:Int):=⟨_,rfl⟩
   rw[<-R] at l a;have T:=qh z;have S:=qh (aI j a);have e1:(0:Int)<=(k:Int):=by omega
   have e2:(k:Int)<(n:Int):=by omega
   obtain⟨M,t⟩:=qnm (k+1);have e3:IntKind.i64.wrap ((k:Int)+1)=(M:Int):=by rw[Ak _ (by omega)];omega
   have P:=qh t;clear z j a R v f u t hk;go_upto_region 4 with fail
   go_cut [38] (fun x wx=>x= .bool (!a6Y r)/\wx=wr);case first=>
    have a:=S.out.2;have p:∀b:Bool,(a6Y r=true↔b=true)->a6Y r=b:=fun b h=>Bl.2 h
    have G:=qh (aI a p);clear a p;by_cases a1:97<=c <;>by_cases X:c<=122 <;>by_cases a3:48<=c <;>by_cases Z:c<=57 <;>by_cases a5:c=46 <;>by_cases a6:c=45 <;>by_cases a7:c=95 <;>first | (exfalso;omega) | skip
    all_goals (first | (have t5:=Cz.2 a5;replace a5:=qh a5) | skip)
    all_goals (first | (have t6:=Cz.2 a6;replace a6:=qh a6) | skip)
    all_goals (first | (have Y:=Cz.2 a7;replace a7:=qh a7) | skip)
    all_goals go_wp2_with fail
    all_goals go_meet
    all_goals refine⟨?_,rfl⟩
    all_goals (
     obtain⟨a,p⟩:=G.out;try have a5:=a5.out
     try have a6:=a6.out
     try have a7:=a7.out
     first | (rw[p true (by rw[a];simp;omega)];first | rfl | simp[*]) | (rw[p false (by rw[a];simp;omega)];first | rfl | simp[*]))
   case rest=>
    obtain⟨rfl,rfl⟩:=hcut;cases B:a6Y r with
    | false=>
     have G:=qh B;clear B;go_wp2_with fail;go_ret;refine⟨a2A ?_,H.out.1⟩;cases N:s.all a6Y with
     | true=>rw [S.out.1 _ N] at *;exact absurd G.out (by simp)
     | false=>unfold goodN;rw[N];rfl
    | true=>
     have G:=qh B;clear B;go_wp2_with fail;go_roundw;case rel=>
      have f:=P.out;refine⟨M,by omega,rfl,trivial,?_⟩;rw[f,<-T.out,List.all_append,J.out];simp[G.out]
     case measure=>
      have f:=P.out;show n - (M:Int).toNat<n - (k:Int).toNat;omega
  ·obtain rfl:k=n:=by omega
   have d:s.all a6Y=true:=by have:=J.out;rwa [Am (by rw[<-u];exact Aa _)] at this
   have U:=qh d;clear L hk J d u;have Q:((a0c s).size:Int)=(s.length:Int):=rfl;obtain⟨m,D⟩:∃m:Nat,m=s.length:=⟨_,rfl⟩
   rw[<-D] at Q;have F:=qh D;clear D;by_cases E:(m:Int)<=16
   ·have y:=qh E;go_wp2_with fail;all_goals go_ret
    all_goals refine⟨a2A ?_,H.out.1⟩
    all_goals (
     have D:=F.out;have A:s.length<=16:=by have:=y.out;omega
     unfold goodN;rw[U.out,AB A])
    all_goals clear Q
    all_goals simp_all
   ·have y:=qh E;go_wp2_with fail;all_goals go_ret
    all_goals refine⟨a2A ?_,H.out.1⟩
    all_goals (
     have D:=F.out;have A:¬s.length<=16:=by have:=y.out;omega
     unfold goodN)
    all_goals simp[A]
theorem Ss.news{w:World}{a:Option Addr}{d cap:Nat}{ys:List (List UInt8)}(h:Ss w a d cap ys):
  (a=none/\d=0/\ys=[])∨∃e,a=some e/\∀j u,(ys.map sv)[j]? =some u->w.cell? (e.add j)=some u:=by
 obtain⟨l,o,h3,i⟩:=h;rcases i with rfl | ⟨b,off,rfl,n,k⟩
 ·obtain rfl:=Ax.1 l;cases a with
  | none=>exact .inl ⟨rfl,rfl,rfl⟩
  | some e=>exact .inr ⟨e,rfl,fun j u c=>by simp at c⟩
 ·refine .inr ⟨_,rfl,fun j u c=>?_⟩;have g:j<ys.length:=by
   rcases BE j ys.length with h | h
   ·exact h
   ·rw[Bo (by simpa using h)] at c;cases c
  have m:(⟨b,off,none⟩:Addr).add j=⟨b,off+j,none⟩:=by by_cases f:j=0 <;>simp [Addr.add,f]
  rw[m,k j g,<-c];simp[sv,g]
theorem a73{w:World}(B:Nat)(v:Value)(xs:List (List UInt8))(a:OwnS w B v xs)(g:Option Addr)(m c:Nat)(ys:List (List UInt8))(o:Ss w g m c ys)(j:TypeId)
  (n:xs.length+m<=1000000) (b:B<=w.heap.size):
  ∃e w',(Builtin.append_ #[37,37] j #[v,.slice g m c]).run Tryz.prog w= .ok e w'/\OwnS w' B e (xs ++ys)/\w.grownBy w' v.ownBlock/\
   (e.ownBlock=v.ownBlock∨e.ownBlock=some w.heap.size):=by
 obtain⟨i,p,h,k,l⟩:=b0x b7E;have s:=o.1;rcases o.news with⟨rfl,rfl,rfl⟩ | ⟨g,rfl,d⟩
 ·have f:=a1a (P:=Tryz.prog) (w:=w) B 37 j TST i 1 Tryz.underlying37 p v _ c _ a;exact⟨v,w,f,by simpa using a,⟨rfl,rfl,rfl,Aa _,fun _ _ _=>rfl⟩,.inl rfl⟩
 ·obtain⟨e,w',t,x,h3,_,r⟩:=run_append_own_at (P:=Tryz.prog) w B 37 j TST i (.string ⟨#[]⟩) 1 16 Tryz.underlying37 p h k l rfl (by decide) v xs.length (xs.map sv) a g m c (ys.map sv) (by simp;omega) d (by
   intro u q;obtain⟨y,_,rfl⟩:=AX.1 q;rfl) (by unfold maxLen;omega) (by omega) b
  exact⟨e,w',t,by subst s;unfold OwnS;simpa using x,h3,r⟩
theorem a5C{w:World}{e:Array Oper}{rest:List Oper}{o:Oper}{a:Act}{Q:Exit->Act->World->Prop}(i:o.guard=none)(s x:Operand)
  (l:o.op= .call { callee:=.builtin .append,args:=#[s,x],argTypes:=#[37,37] })
  (B:Nat) (v:Value) (xs:List (List UInt8)) (t:a.eval s=v) (g:OwnS w B v xs)
  (j:Option Addr) (m c:Nat) (ys:List (List UInt8)) (n:a.eval x= .slice j m c) (r:Ss w j m c ys)
  (f:xs.length+m<=1000000) (b:B<=w.heap.size)
  (h:∀d w',OwnS w' B d (xs ++ys)->w.grownBy w' v.ownBlock->(d.ownBlock=v.ownBlock∨d.ownBlock=some w.heap.size)->wpList Tryz.prog e Q rest (a.put o.dst d) w'):wpList Tryz.prog e Q (o :: rest) a w:=by
 refine BX i fun _ hK=>?_
 obtain⟨d,w',p,q,h3,k⟩:=a73 B v xs g j m c ys r o.type f b;unfold Oper.wp execOp;simp only[l,resolve,invoke,builtin,Cs,Cr,BJ,BO,Au,Bf,t,n,p];exact hK _ _ (h d w' q h3 k)
theorem OwnS.of_row0(w:World)(B:Nat)(a:B<=w.heap.size):OwnS (w.alloc (.cells #[] TST)) B (.slice (some ⟨w.heap.size,0,none⟩) 0 0) []:=
 ⟨by simp,.inr ⟨w.heap.size,0,#[],rfl,a,Ae w _,by simp,by simp[maxLen],by simp,by simp⟩⟩
theorem b1M(a:Option Addr)(c cap:Nat)(xs:List (List UInt8))(w:World)(h:Ss w a c cap xs)(j:c<=1000000):
  Calls Tryz.prog 296 #[.slice a c cap] w fun e w'=>∃v,e= .returned v/\OwnS w' w.heap.size v xs/\Below w.heap.size w w':=by
 have p:=fun w=>Lib.run_eql_slice_nil (P:=Tryz.prog) (w:=w)
 cases a with
 | none=>
  have f:c=0:=by
   rcases h.2.2.2 with f | ⟨b,off,i,_⟩
   ·exact f
   ·cases i
  subst f;obtain rfl:=Ax.1 h.1;go_enter Tryz.func296,Tryz.ntmps296;go_wp2;go_ret;exact⟨_,rfl,OwnS.nil _ _,Ab _ _⟩
 | some g=>
  go_enter Tryz.func296,Tryz.ntmps296;go_wp2_with (at_builtin;refine a5C rfl _ _ rfl (w.heap.size) _ [] rfl (OwnS.of_row0 w w.heap.size (Aa _)) (some g) c cap xs rfl (h.alloc _) ?_ (by simp) ?_)
  ·simpa using j
  intro n o d m _;have l:=((Ext.refl w).alloc (.cells #[] TST)).grown m (fun k hk=>by simp[Value.ownBlock] at hk;omega);go_wp2_with fail;go_ret;exact⟨_,rfl,by simpa using d,l.1⟩
theorem b4f(s:List UInt8)(c:s.length<=1000000)(w:World):Calls Tryz.prog 294 #[.string (a0c s)] w fun e w'=>e= .returned (.bool (!goodN s))/\Below w.heap.size w w':=by
 have a:=qh (b1e s c w);go_enter Tryz.func294,Tryz.ntmps294;go_wp2_with fail;refine a.out.mono ?_;rintro e d ⟨rfl,b⟩;go_wp2_with fail;go_ret;exact⟨rfl,b⟩
def a9C(ls:List (List UInt8)):Int:=match ls.findIdx? (fun s=> !goodN s) with | some i=>(i:Int) | none=> -1
theorem b4R(ls:List (List UInt8)):decide (a9C ls ≥ 0)=ls.any (fun s=> !goodN s):=by
 unfold a9C;cases h:ls.findIdx? (fun s=> !goodN s) with
 | none=>
  rw[List.findIdx?_eq_none_iff] at h;simp;exact fun s a=>by have:=h s a;simpa using this
 | some i=>
  rw[List.findIdx?_eq_some_iff_getElem] at h;obtain⟨c,b,_⟩:=h;simp;exact⟨_,AE c,by simpa using b⟩
theorem b5I(q:Option Addr)(nl o:Nat)(ls:List (List UInt8))(w:World)(h:Ss w q nl o ls)(t:∀s∈ls,s.length<=1000000):Calls Tryz.prog 329 #[.slice q nl o,.func (.func 294) #[] #[]] w fun e w'=>e= .returned (.int .i64 (a9C ls))/\Below w.heap.size w w':=by
 have L:=h.1;have v:=h.2.1;have D:o<=9223372036854775807:=Ad h.2.2.1 (by unfold maxLen;decide);have E:=qh h;have J:=qh t;clear h t;go_enter Tryz.func329,Tryz.ntmps329;go_wp2_with fail;go_loopw [8] (fun i wr=>∃k:Nat,k<=nl/\i= .int .i64 k/\(∀j (c:j<ls.length),j<k->goodN ls[j]=true)/\Ext w.heap.size w wr) (fun i _=>nl - (intOf i).toNat);case atStart=>exact ⟨0,by omega,rfl,by omega,Ext.refl w⟩
 case round=>
  obtain⟨k,hk,rfl,a,m⟩:=hrel;by_cases C:k<nl
  ·obtain⟨p,G,rfl,A,g⟩:=E.out.at (by omega);have M:=(m.1.cell (p:=⟨p,G+k,none⟩) A).trans (g k (by omega));have H:(0:Int)<=(k:Int):=by omega
   have z:(k:Int)<(nl:Int):=by omega
   have l:k<ls.length:=by omega
   have B:=qh (fun(b:goodN ls[k]=true) j (c:j<ls.length) (x:j<k+1)=>show goodN ls[j]=true from by
    rcases BE j k with h | h
    ·exact a j c h
    ·obtain rfl:j=k:=by omega
     exact b)
   have r:goodN ls[k]=false->a9C ls=(k:Int):=fun b=>by
    unfold a9C;have:ls.findIdx? (fun s=> !goodN s)=some k:=by
     rw[List.findIdx?_eq_some_iff_getElem];exact⟨l,by simpa using b,fun j c=>by have:=a j (by omega) c;simpa using this⟩
    rw[this]
   have y:=qh r;have F:=qh (J.out _ (AE l));clear r;generalize ls[k]=s at *;clear g a;go_wp2_with fail;refine(b4f s F.out _).mono ?_;rintro e N ⟨rfl,u⟩;have d:=qh (m.step u);clear u m;cases b:goodN s with
   | false=>
    have n:=qh b;clear b;go_wp2_with fail;go_ret;exact⟨a0F (y.out n.out).symm,d.out.1⟩
   | true=>
    have n:=qh b;clear b;go_wp2_with fail;go_roundw;case rel=>exact ⟨k+1,by omega,by go_num,B.out n.out,d.out⟩
    case measure=>simp [intOf];omega
  ·obtain rfl:k=nl:=by omega
   have f:a9C ls= -1:=by
    unfold a9C;have:ls.findIdx? (fun s=> !goodN s)=none:=by
     rw[List.findIdx?_eq_none_iff];intro s I;obtain⟨j,c,rfl⟩:=Bi I;have:=a j c (by omega);simpa using this
    rw[this]
   have K:=qh f;clear f a;go_wp2_with fail;go_ret;exact⟨a0F K.out.symm,m.1⟩
theorem a8b(d:Option Addr)(c a:Nat)(ls:List (List UInt8))(w:World)(h:Ss w d c a ls)(i:∀s∈ls,s.length<=1000000):
  Calls Tryz.prog 293 #[.slice d c a,.func (.func 294) #[] #[]] w fun e w'=>e= .returned (.bool (ls.any (fun s=> !goodN s)))/\Below w.heap.size w w':=by
 have f:=b4R ls;generalize ls.any (fun s=> !goodN s)=b at *;have g:=qh f;have j:=qh (fun w h=>b5I d c a ls w h i);generalize a9C ls=l at *;clear f;go_enter Tryz.func293,Tryz.ntmps293;go_wp2_with fail;refine(j.out _ h).mono ?_;rintro e m ⟨rfl,k⟩;go_wp2_with fail;go_ret;exact⟨a2A g.out,k⟩
theorem a4J(l:Option Addr)(a d:Nat)(ls:List (List UInt8))(w:World)(h:Ss w l a d ls)(n:∀s∈ls,s.length<=1000000):
  Calls Tryz.prog 233 #[.slice l a d] w fun e w'=>e= .returned (.int .i64 (fineP ls:Int))/\Below w.heap.size w w':=by
 have i:=h.1;have g:=qh (a8b l a d ls w h n);have o:fineP ls=if ls.any (fun s=> !goodN s)=true then 12 else if 8<a then 3 else 0:=by rw[<-i];rfl
 have j:=qh o;clear o h n;generalize ls.any (fun s=> !goodN s)=b at *;generalize fineP ls=f at *;cases b with
 | true=>
  go_enter Tryz.func233,Tryz.ntmps233;go_wp2_with fail;refine g.out.mono ?_;rintro e p ⟨rfl,c⟩;go_wp2_with fail;go_ret;exact⟨a0F (by rw[j.out];rfl),c⟩
 | false=>
  by_cases m:8<a
  ·have k:(8:Int)<(a:Int):=by omega
   go_enter Tryz.func233,Tryz.ntmps233;go_wp2_with fail;refine g.out.mono ?_;rintro e p ⟨rfl,c⟩;go_wp2_with fail;go_ret;exact⟨a0F (by rw[j.out,Ag (by simp),Ah m];rfl),c⟩
  ·have k:¬(8:Int)<(a:Int):=by omega
   go_enter Tryz.func233,Tryz.ntmps233;go_wp2_with fail;refine g.out.mono ?_;rintro e p ⟨rfl,c⟩;go_wp2_with fail;go_ret;exact⟨a0F (by rw[j.out,Ag (by simp),Ag m];rfl),c⟩
theorem b1U(w:World)(c:Nat)(a:Option Addr):Calls Tryz.prog 234 #[.slice a 0 c] w fun e w'=>e= .returned (.tuple #[.slice none 0 0,.string ⟨#[]⟩,.int .i64 1])/\w=w':=by
 go_enter Tryz.func234,Tryz.ntmps234;go_wp2_with fail;go_ret3;exact⟨rfl,rfl⟩
theorem b1V(a:Option Addr)(n c:Nat)(ls:List (List UInt8))(s:List UInt8)(w:World)(h:Ss w a (n+1) c (ls ++[s]))(x:n<=100000):
  Calls Tryz.prog 234 #[.slice a ((n+1:Nat)) c] w fun e w'=>∃v,e= .returned (.tuple #[v,.string (a0c s),.int .i64 0])/\OwnS w' w.heap.size v ls/\Below w.heap.size w w':=by
 have i:ls.length=n:=by have:=h.1;simp at this;omega
 obtain⟨b,off,rfl,m,q⟩:=h.at (by omega);have d:=q n (by simp[i]);have p:(ls ++[s])[n]'(by simp[i])=s:=by simp[<-i]
 rw[p] at d;have hk:=h.take (k:=n) (by omega);rw[Bk i] at hk;have g:=h.2.1;have r:=qh (fun w' (m:Below w.heap.size w w')=>b1M _ n c ls w' (hk.below m) (by omega));obtain⟨N,o⟩:=qnm (n+1);rw[<-o] at g⊢;have u:IntKind.i64.wrap ((N:Int) - 1)=(n:Int):=by rw[Ak _ (by omega)];omega
 have z:n<=c:=by omega
 have A:¬(N:Int)=0:=by omega
 have t:((N:Int) == 0)=false:=by simp;omega
 have C:(0:Int)<=(n:Int):=by omega
 have B:(n:Int)<(N:Int):=by omega
 have D:=qh o;clear hk q p h o;go_enter Tryz.func234,Tryz.ntmps234;go_upto_region 3 with fail
 have j:=(Ext.refl w).drew;go_region_held3 (fun w'=>w'.cell? ⟨b,off+n,none⟩=some (.string (a0c s))) (go_keep) ((first
  | (go_at_call 296;refine(r.out _ (Ab _ w).drew).mono ?_;rintro e w2 ⟨y,rfl,l,hb2⟩;have f:=j.step hb2;have E:=f.cel m d)))
 all_goals (go_wp2_with fail;go_ret3;exact⟨_,rfl,l,f.1⟩)
end
section
open Go.RowKit Go.ChangeMaps Go.MapKept
theorem a1y:Tryz.prog.underlying 231=some (.map a3c TI64):=Tryz.underlying231
variable {w : World} {L B t mb c : Nat} {F G : Nat → Nat} {T : Tr}
theorem TreeIn.cell0(h:TreeIn w L B t mb F G T):w.cell? ⟨t,0,none⟩=some (.map (some mb)):=a0a h.cel 0
theorem a4s(w:World):(zeroValue 229).run Tryz.prog w= .ok (.pointer none) w:=Tryz.zeroValue229 w
theorem a7O(w:World):(zeroValue TI64).run Tryz.prog w= .ok (.int .i64 0) w:=Tryz.zeroValue3 w
theorem TreeIn.hit(h:TreeIn w L B t mb F G T){i:Nat}{x:It}(a:getK i T=some x)(b:i<=1000000000):
  (Instr.lookup 226 (.map (some mb)) (.int .i64 (i:Int)) false).run Tryz.prog w= .ok (.pointer (some ⟨F i,0,none⟩)) w:=by
 have:=h.map.look numS a1m a04 (a4s w) (a9I i b);rw[a1c,a] at this;exact this
theorem TreeIn.miss(h:TreeIn w L B t mb F G T){i:Nat}(a:getK i T=none)(b:i<=1000000000):
  (Instr.lookup 226 (.map (some mb)) (.int .i64 (i:Int)) false).run Tryz.prog w= .ok (.pointer none) w:=by
 have:=h.map.look numS a1m a04 (a4s w) (a9I i b);rw[a1c,a] at this;exact this
theorem TreeIn.hit2(h:TreeIn w L B t mb F G T){i:Nat}{x:It}(a:getK i T=some x)(b:i<=1000000000):
  (Instr.lookup 226 (.map (some mb)) (.int .i64 (i:Int)) true).run Tryz.prog w= .ok (.tuple #[.pointer (some ⟨F i,0,none⟩),.bool true]) w:=by
 have:=h.map.look_ok numS a1m a04 (a4s w) (a9I i b);rw[a1c,a] at this;exact this
theorem TreeIn.miss2(h:TreeIn w L B t mb F G T){i:Nat}(a:getK i T=none)(b:i<=1000000000):
  (Instr.lookup 226 (.map (some mb)) (.int .i64 (i:Int)) true).run Tryz.prog w= .ok (.tuple #[.pointer none,.bool false]) w:=by
 have:=h.map.look_ok numS a1m a04 (a4s w) (a9I i b);rw[a1c,a] at this;exact this
theorem TreeIn.dir(h:TreeIn w L B t mb F G T){i:Nat}{x:It}(g:getK i T=some x)(hk:x.n.kind=2):
  w.cell? ⟨F i,1,none⟩=some (.int .i64 2)/\w.cell? ⟨F i,7,none⟩=some (.map (some (G i)))/\MapAt a0L Tryz.prog a3c w (G i) (vals a3v x.names):=by
 obtain⟨_,v,m,f,_,c,_⟩:=h.item i x g;obtain⟨e,_,d⟩:=c hk;obtain⟨_,b,_,_,_,_,_,a⟩:=a0m f;rw[hk] at b;rw[e] at a;exact⟨b,a,d⟩
theorem a4O{nb:Nat}{l:List (List UInt8×Nat)}(h:MapAt a0L Tryz.prog a3c w nb (vals a3v l))(s:List UInt8)(a:s.length<=1000000):
  (Instr.lookup 231 (.map (some nb)) (.string (a0c s)) true).run Tryz.prog w= .ok (.tuple #[.int .i64 (((getK s l).getD 0:Nat):Int),.bool (getK s l).isSome]) w:=by
 have:=h.look_ok a0L a3f a1y (a7O w) (b8s s (by unfold maxLen;omega));rw[a1c] at this;rw[this];cases getK s l <;>rfl
theorem a3Z(g:Nat)(a:Option Addr)(n cap:Nat)(ls:List (List UInt8))(j:w.cell? ⟨g,0,none⟩=some (.slice a n cap))(b:Ss w a n cap ls)(c:∀s∈ls,s.length<=1000000):
  Calls Tryz.prog 152 #[.slice (some ⟨g,0,none⟩) 1 1] w fun e w'=>e= .returned (.int .i64 (fineP ls:Int))/\Below w.heap.size w w':=by
 have i:=qh (a4J a n cap ls w b c);generalize fineP ls=f at *;clear b c;go_enter Tryz.func152,Tryz.ntmps152;go_wp2_with fail;refine BQ 2 ?_;rw[A0];go_wp2_with fail;refine i.out.mono ?_;rintro e k ⟨rfl,d⟩;by_cases h:f=0
 ·subst h;go_wp2_with fail;rw[A0];go_wp2_with fail;go_ret;exact⟨rfl,d⟩
 ·have l:¬(f:Int)=0:=by omega
  go_wp2_with fail;go_ret;exact⟨rfl,d⟩
theorem a39(h:TreeIn w L B t mb F G T)(P:TrOk c T)(hc:c<=60000)(a:Option Addr)(n cap:Nat)(p:List (List UInt8))(E:Ss w a n cap p)(N:∀s∈p,s.length<=1000000):
  Calls Tryz.prog 162 #[.pointer (some ⟨t,0,none⟩),.slice a n cap] w fun e w'=>e= .returned (.tuple #[.int .i64 ((a0I T 0 p).1:Int),.int .i64 ((a0I T 0 p).2:Int)])/\w=w':=by
 have u:=E.1;have U:=E.2.1;have X:cap<=9223372036854775807:=Ad E.2.2.1 (by unfold maxLen;decide);have z:=qh (aI h P);have O:=qh (aI E N);have c0:=h.cell0;clear h P E N;go_enter Tryz.func162,Tryz.ntmps162;go_wp2_with fail;go_loopw [6,14] (fun id k wr=>∃i j:Nat,j<=n/\id= .int .i64 (i:Int)/\k= .int .i64 (j:Int)/\wr=w/\a0I T 0 p=a0I T i (p.drop j)/\∃x,getK i T=some x) (fun _ k _=>n - (intOf k).toNat);case atStart=>exact ⟨0,0,by omega,rfl,rfl,rfl,rfl,by obtain⟨x,l,_⟩:=z.out.2.root;exact⟨x,l⟩⟩
 case round=>
  obtain⟨i,j,H,rfl,rfl,rfl,f,x,l⟩:=hrel;by_cases J:j<n
  ·obtain⟨b,off,rfl,hb,C⟩:=O.out.1.at (by omega);have o:j<p.length:=by omega
   have Y:=C j o;have q:=O.out.2 _ (AE o);rw[Bm o] at f;clear C;generalize p[j]=s at Y q f;have I:=(z.out.2.nd i x l).1;have S:=z.out.1.hit l (by omega);have Z:(0:Int)<=(j:Int):=by omega
   have e2:(j:Int)<(n:Int):=by omega
   obtain⟨K,g⟩:=qnm (j+1);have e3:IntKind.i64.wrap ((j:Int)+1)=(K:Int):=by rw[Ak _ (by omega)];omega
   by_cases hk:x.n.kind=2
   ·obtain⟨Q,d7,M⟩:=z.out.1.dir l hk;have r:=a4O M s q;cases A:getK s x.names with
    | none=>
     rw[A] at r;simp only[Ct,Bq] at r;have d:a0I T i (s :: p.drop (j+1))=(0,20):=by simp[a0I,l,hk,A]
     rw[d] at f;have y:=qh f;clear f M l hk A d q o g I H u;go_wp2_with fail;go_ret2;exact⟨by rw[y.out];rfl,rfl⟩
    | some k=>
     rw[A] at r;simp only[B8,Bp] at r;have d:a0I T i (s :: p.drop (j+1))=a0I T k (p.drop (j+1)):=by simp[a0I,l,hk,A]
     rw[d] at f;have y:=qh (aI f (aI (z.out.2.nm i x s k l A).1 g));clear f M l hk A d q o g I H u;go_wp2_with fail;go_roundw;case rel=>
      obtain⟨f,W,g⟩:=y.out;exact⟨k,K,by omega,rfl,rfl,trivial,by rw[f,g],W⟩
     case measure=>
      obtain⟨_,_,g⟩:=y.out;show n - (K:Int).toNat<n - (j:Int).toNat;omega
   ·obtain⟨_,v,m,R,_⟩:=z.out.1.item i x l;have Q:=(a0m R).2.1;have d:a0I T i (s :: p.drop (j+1))=(0,23):=by simp[a0I,l,hk]
    rw[d] at f;have D:x.n.kind=1:=by rcases z.out.2.kind l with h | h;exact h;exact absurd h hk
    rw[D] at Q;have y:=qh f;clear f l hk D d q o g I H R u;go_wp2_with fail;go_ret2;exact⟨by rw[y.out];rfl,rfl⟩
  ·obtain rfl:j=n:=by omega
   have V:p.drop j=[]:=Bh (by omega);rw[V] at f;have d:a0I T i []=(i,0):=rfl;rw[d] at f;have y:=qh f;clear f l d V J H u;go_wp2_with fail;go_ret2;exact⟨by rw[y.out];rfl,rfl⟩
def a2d(T:Tr)(p:List (List UInt8)):Nat×Nat:=if fineP p≠0 then(0,fineP p) else a0I T 0 p
theorem a5R(h:TreeIn w L B t mb F G T)(k:TrOk c T)(y:c<=60000)(a:Option Addr)(n cap:Nat)(p:List (List UInt8))(g:Ss w a n cap p)(i:∀s∈p,s.length<=1000000):
  Calls Tryz.prog 156 #[.pointer (some ⟨t,0,none⟩),.slice a n cap] w fun e w'=>e= .returned (.tuple #[.int .i64 ((a2d T p).1:Int),.int .i64 ((a2d T p).2:Int)])/\Below w.heap.size w w':=by
 have m:=qh (a3Z (w:=w.alloc (.cells #[.slice a n cap] 37)) w.heap.size a n cap p (by rw[a07];rfl) (g.alloc _) i);have v:=qh (fun w' (d:Below w.heap.size w w')=>a39 (h.below d) k y a n cap p (g.below d) i);have o:a2d T p=if fineP p≠0 then(0,fineP p) else a0I T 0 p:=rfl
 have l:=qh o;have u:=qh ((Ext.refl w).alloc (.cells #[.slice a n cap] 37));clear o h k g i;generalize a2d T p=r at *;generalize fineP p=f at *;generalize a0I T 0 p=q at *;by_cases j:f=0
 ·subst j;go_enter Tryz.func156,Tryz.ntmps156;go_wp2_with fail;refine m.out.mono ?_;rintro e x ⟨rfl,d⟩;have b:=qh (u.out.step d);go_wp2_with fail;refine(v.out _ b.out.1).mono ?_;rintro e w2 ⟨rfl,rfl⟩;go_wp2_with fail;go_ret2;exact⟨by rw[l.out];rfl,b.out.1⟩
 ·have z:¬(f:Int)=0:=by omega
  go_enter Tryz.func156,Tryz.ntmps156;go_wp2_with fail;refine m.out.mono ?_;rintro e x ⟨rfl,d⟩;have b:=qh (u.out.step d);go_wp2_with fail;go_ret2;exact⟨by rw[l.out,Ah j];rfl,b.out.1⟩
theorem a6x{a:Type}(l:List a)(s:a):(l ++[s]).getLast? =some s:=by simp
theorem b31{a:Type}(l:List a)(h:l≠[]):∃xs s,l=xs ++[s]:=⟨l.dropLast,l.getLast h,(List.dropLast_concat_getLast h).symm⟩
def b01(F:Nat->Nat)(r:Nat×Nat)(s:List UInt8):Value:=if r.2≠0 then .tuple #[.pointer none,.string ⟨#[]⟩,.int .i64 (r.2:Int)] else .tuple #[.pointer (some ⟨F r.1,0,none⟩),.string (a0c s),.int .i64 0]
theorem a3h(F:Nat->Nat)(i f:Nat)(s:List UInt8)(h:f≠0):b01 F (i,f) s= .tuple #[.pointer none,.string ⟨#[]⟩,.int .i64 (f:Int)]:=Ah h
theorem a2O(F:Nat->Nat)(i:Nat)(s:List UInt8):b01 F (i,0) s= .tuple #[.pointer (some ⟨F i,0,none⟩),.string (a0c s),.int .i64 0]:=Ag (by simp)
theorem a2h(h:TreeIn w L B t mb F G T)(u:TrOk c T)(hc:c<=60000)(a:Option Addr)(n cap:Nat)(p:List (List UInt8))(I:Ss w a n cap p)(M:∀s∈p,s.length<=1000000)(hn:n<=100000):
  Calls Tryz.prog 153 #[.pointer (some ⟨t,0,none⟩),.slice a n cap] w fun e w'=>e= .returned (b01 F (a02 T p) (p.getLast?.getD []))/\Below w.heap.size w w':=by
 have j:=I.1;by_cases l:p=[]
 ·subst l;obtain rfl:n=0:=by simpa using j.symm
  have hr:a02 T []=(0,1):=rfl;rw[hr,a3h _ _ _ _ (by omega)];have g:=qh (fun w=>b1U w cap a);clear h u I M hr;go_enter Tryz.func153,Tryz.ntmps153;go_wp2_with fail;refine(g.out _).mono ?_;rintro e Y ⟨rfl,rfl⟩;go_wp2_with fail;go_ret3;exact⟨rfl,Ab _ _⟩
 obtain⟨d,s,rfl⟩:=b31 p l;obtain⟨n',rfl⟩:∃n',n=n'+1:=⟨n - 1,by simp at j;omega⟩
 have P:d.length=n':=by simpa using j
 have g:=qh (b1V a n' cap d s w I (by omega));have HL:=qh (fun w' a X (Q:Below w.heap.size w w') (S:Ss w' a n' X d)=>a39 (h.below Q) u hc a n' X d S (fun x f=>M x (by simp[f])));have HT:=qh (fun w' (Q:Below w.heap.size w w')=>h.below Q);have A:a02 T (d ++[s])=if (a0I T 0 d).2≠0 then(0,(a0I T 0 d).2) else match getK (a0I T 0 d).1 T with | none=>(0,20) | some x=>if x.n.kind=2 then((a0I T 0 d).1,0) else(0,23):=by
  unfold a02;rw[a6x,List.dropLast_concat];rfl
 have D:(d ++[s]).getLast?.getD []=s:=by rw[a6x];rfl
 rw[D];have y:=a3y u d 0 (by obtain⟨x,f,_⟩:=u.root;exact⟨x,f⟩);generalize a02 T (d ++[s])=r at *;generalize a0I T 0 d=q at *;have k:=qh (aI A (aI y u));obtain⟨V,J⟩:=qnm (b01 F r s);rw[<-J];have K:=qh J;clear J;obtain⟨N,Z⟩:=qnm (n'+1);rw[<-Z] at g⊢;clear h u I M A y l D j Z;obtain⟨U,O⟩:=q;simp only at HL k;go_enter Tryz.func153,Tryz.ntmps153;go_wp2_with fail;refine g.out.mono ?_;rintro e Y ⟨v1,rfl,H,hb1⟩;obtain⟨a1,c1,rfl,E⟩:=H.ss P;have i:=qh hb1;have R:=qh (HL.out Y a1 c1 hb1 E);clear H hb1 E;go_wp2_with fail;refine R.out.mono ?_;rintro e w2 ⟨rfl,rfl⟩;by_cases o:O=0
 ·subst o;obtain⟨x,f⟩:=k.out.2.1 rfl;have W:=(k.out.2.2.nd U x f).1;have b:=HT.out _ i.out;have c0:=b.cell0;have a0:=b.hit f (by omega);by_cases hk:x.n.kind=2
  ·obtain⟨d1,_,_⟩:=b.dir f hk;have z:=qh (show r=(U,0) by rw[k.out.1,Ag (by simp)];simp[f,hk]);clear b f W hk;go_wp2_with fail;go_ret3;exact⟨by rw[K.out,z.out,a2O];rfl,i.out⟩
  ·obtain⟨_,v,m,o,_⟩:=b.item U x f;have d1:=(a0m o).2.1;have C:x.n.kind=1:=by rcases k.out.2.2.kind f with h | h;exact h;exact absurd h hk
   rw[C] at d1;have z:=qh (show r=(0,23) by rw[k.out.1,Ag (by simp)];simp[f,hk]);clear b f W hk C o;go_wp2_with fail;go_ret3;exact⟨by rw[K.out,z.out,a3h _ _ _ _ (by omega)];rfl,i.out⟩
 ·have h3:¬(O:Int)=0:=by omega
  have z:=qh (show r=(0,O) by rw[k.out.1,Ah o]);have H2:=qh o;clear o;go_wp2_with fail;go_ret3;exact⟨by rw[K.out,z.out,a3h _ _ _ _ H2.out];rfl,i.out⟩
end
end Go.Proofs.YtbemfdcjieakdaaGreatDoor
