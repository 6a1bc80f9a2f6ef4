/- Split; StPaths; StNode; StLook. -/
import Derived.Lib.Strings
import Derived.Lib.Walk
import Derived.Test.YtbemfdcjieakdaaGreatDoorK27
set_option maxRecDepth 100000
set_option maxHeartbeats 8000000
namespace Go.Proofs.YtbemfdcjieakdaaGreatDoor
section
open Go.RowKit
def Glob(w:World):Prop:=∃m:Int,w.cell? ⟨2,0,none⟩=some (.int .i64 m)
theorem Glob.lt{w:World}(h:Glob w):2<w.heap.size:=by
 obtain⟨m,a⟩:=h;exact World.block_lt_of_cell? w _ a
theorem Glob.below{w w':World}(h:Glob w)(c:Below w.heap.size w w'):Glob w':=by
 have b:=h.lt;obtain⟨m,a⟩:=h;exact⟨m,(c.cell (p:=⟨2,0,none⟩) b).trans a⟩
def a00(s:List UInt8):List (List UInt8):=(Lib.splitB ⟨#[47]⟩ 0 (Lib.countB (a0c s) ⟨#[47]⟩) (a0c s)).map (·.data.toList)
theorem a54(b:ByteArray)(a:Nat):∀(k:Nat) (s:ByteArray) (x:ByteArray),x∈Lib.splitB b a k s->x.size<=s.size
 | 0,s,x,h=>by simp[Lib.splitB] at h;subst h;exact Aa _
 | k+1,s,x,h=>by
  unfold Lib.splitB at h;split at h
  ·simp at h;subst h;exact Aa _
  ·rcases AP.1 h with rfl | h
   ·rw[ByteArray.size_extract];omega
   ·have:=a54 b a k _ x h;rw[ByteArray.size_extract] at this;omega
theorem a9S(s:List UInt8):∀x∈a00 s,x.length<=s.length:=fun x a=>by
 unfold a00 at a;obtain⟨y,b,rfl⟩:=AX.1 a;have:=a54 _ _ _ _ _ b;rw[Array.length_toList];exact this
def a0g(s:List UInt8):List (List UInt8)×Nat:=
 match s with
 | []=>([],12)
 | c :: r=>if c=47 then(if r=[] then([],0) else if fineP (a00 r)≠0 then([],fineP (a00 r)) else(a00 r,0)) else([],12)
theorem b1p(s p:ByteArray)(w:World):
  Calls Tryz.prog 231 #[.string s,.string p] w fun e w'=>e= .returned (.tuple #[.string ⟨(Lib.trimPrefix s.data.toList p.data.toList).toArray⟩,.bool (Lib.hasPrefix s.data.toList p.data.toList)])/\w'=w:=by
 go_enter Tryz.func231,Tryz.ntmps231;go_wp2
 ·have c:(!((s.extract 0 p.size).toList == p.toList))=true:=by assumption
  have h3:(decide (p.size<=s.size) && ((s.extract 0 p.size).toList == p.toList))=false:=by
   have:((s.extract 0 p.size).toList == p.toList)=false:=by simpa using c
   rw[this];simp
  go_ret2;refine⟨?_,rfl⟩;rw[Lib.trimPrefix_miss s p h3,<-Lib.hasPrefix_raw,h3];rfl
 ·have b:p.size<=s.size:=by assumption
  have c:(!((s.extract 0 p.size).toList == p.toList))=false:=by assumption
  have a:((s.extract 0 p.size).toList == p.toList)=true:=by simpa using c
  go_ret2;refine⟨?_,rfl⟩;rw[Lib.trimPrefix_hit s p b a,<-Lib.hasPrefix_raw,a,AB b];rfl
 ·have b:¬p.size<=s.size:=by assumption
  have h3:(decide (p.size<=s.size) && ((s.extract 0 p.size).toList == p.toList))=false:=by simp[b]
  go_ret2;refine⟨?_,rfl⟩;rw[Lib.trimPrefix_miss s p h3,<-Lib.hasPrefix_raw,h3];rfl
theorem b6E(r:List UInt8)(w:World):Calls Tryz.prog 231 #[.string (a0c (47 :: r)),.string ⟨#[47]⟩] w fun e w'=>e= .returned (.tuple #[.string (a0c r),.bool true])/\w'=w:=by
 have h:=b1p (a0c (47 :: r)) ⟨#[47]⟩ w;have a:Lib.hasPrefix (a0c (47 :: r)).data.toList (⟨#[47]⟩:ByteArray).data.toList=true:=by simp[a0c,Lib.hasPrefix,List.isPrefixOf]
 have b:Lib.trimPrefix (a0c (47 :: r)).data.toList (⟨#[47]⟩:ByteArray).data.toList=r:=by
  unfold Lib.trimPrefix;rw[Ah a];simp[a0c]
 rw[a,b] at h;exact h
theorem b4A(s:List UInt8)(b:s.head?≠some 47)(w:World):Calls Tryz.prog 231 #[.string (a0c s),.string ⟨#[47]⟩] w fun e w'=>e= .returned (.tuple #[.string (a0c s),.bool false])/\w'=w:=by
 have h:=b1p (a0c s) ⟨#[47]⟩ w;have a:Lib.hasPrefix (a0c s).data.toList (⟨#[47]⟩:ByteArray).data.toList=false:=by
  cases s with
  | nil=>rfl
  | cons c r=>
   have:c≠47:=fun e=>b (by rw[e];rfl)
   simp[a0c,Lib.hasPrefix,List.isPrefixOf];exact fun e=>this e.symm
 have d:Lib.trimPrefix (a0c s).data.toList (⟨#[47]⟩:ByteArray).data.toList=s:=by
  unfold Lib.trimPrefix;rw[Ag (by rw[a];simp)];simp[a0c]
 rw[a,d] at h;exact h
def TyS(w:World)(a:Option Addr):Prop:=∀p,a=some p->∃C b,w.heap[p.block]? =some (.cells C TST b)
theorem TyS.nil(w:World):TyS w none:=fun _ h=>by cases h
theorem TyS.below{w w':World}{a:Option Addr}(h:TyS w a)(c:Below w.heap.size w w'):TyS w' a:=fun p d=>by
 obtain⟨C,b,h⟩:=h p d;exact⟨C,b,(c.block _ (Array.getElem?_eq_some_iff.1 h).1).trans h⟩
theorem b5r(s:List UInt8)(q:s.length<=1000000)(w:World)(l:Glob w):
  Calls Tryz.prog 232 #[.string (a0c s),.string ⟨#[47]⟩] w fun e w'=>∃a n c,e= .returned (.slice a n c)/\(Ss w' a n c (a00 s)/\TyS w' a)/\Below w.heap.size w w':=by
 obtain⟨m,k⟩:=l;have f:(a0c s).size=s.length:=by simp[a0c,ByteArray.size]
 refine(Any.strings_Split Tryz.splitS (by kernel_rfl) (a0c s) ⟨#[47]⟩ m w (by rw[f];omega) k (by decide)).mono ?_;rintro e w' ⟨rfl,rfl⟩;have o:=Lib.countB_le ⟨#[47]⟩ (by decide) (a0c s).size (a0c s) (Aa _);have b:=Lib.splitB_all ⟨#[47]⟩ (by decide) 0 _ (a0c s) rfl;have g:(a00 s).length=Lib.countB (a0c s) ⟨#[47]⟩+1:=by unfold a00;rw[AC];exact b
 refine⟨_,_,_,rfl,⟨⟨g,Aa _,by unfold maxLen;omega,.inr ⟨w.heap.size,0,rfl,by simp,fun i j=>?_⟩⟩,fun p h=>by injection h with h;subst h;exact⟨_,_,Ae w _⟩⟩,(Ab _ w).alloc (Aa _) _⟩;rw[AD,Az];unfold a00 at j⊢;rw[AC] at j;have e:∀x:ByteArray,a0c x.data.toList=x:=fun ⟨d⟩=>rfl
 generalize Lib.splitB ⟨#[47]⟩ 0 (Lib.countB (a0c s) ⟨#[47]⟩) (a0c s)=Q at *;rw[List.getElem_map,e];simp[j]
theorem b3b(s:List UInt8)(z:s.length<=1000000)(w:World)(q:Glob w):
  Calls Tryz.prog 150 #[.string (a0c s)] w fun e w'=>(∃a n c,e= .returned (.tuple #[.slice a n c,.int .i64 ((a0g s).2:Int)])/\(Ss w' a n c (a0g s).1/\TyS w' a)/\(n=0->a=none/\c=0))/\Below w.heap.size w w':=by
 by_cases h:s.head? =some 47
 ·obtain⟨r,rfl⟩:∃r,s=47 :: r:=by
   cases s with
   | nil=>cases h
   | cons c r=>simp at h;exact⟨r,by rw[h]⟩
  have u:r.length<=1000000:=by simp at z;omega
  have m:=qh (b6E r w);by_cases b:r=[]
  ·subst b;have i:a0g [47]=([],0):=rfl;rw[i];have E:((a0c []).toList == ([]:List UInt8))=true:=by rw[a0X];rfl
   go_enter Tryz.func150,Tryz.ntmps150;go_wp2_with fail;refine m.out.mono ?_;rintro e y ⟨rfl,rfl⟩;go_wp2_with fail;go_ret2;exact⟨⟨_,_,_,rfl,⟨Ss.nil _,TyS.nil _⟩,fun _=>⟨rfl,rfl⟩⟩,Ab _ _⟩
  ·have E:((a0c r).toList == ([]:List UInt8))=false:=by rw[a0X];simpa using b
   have i:a0g (47 :: r)=if fineP (a00 r)≠0 then([],fineP (a00 r)) else(a00 r,0):=by
    show(if(47:UInt8)=47 then(if r=[] then([],0) else if fineP (a00 r)≠0 then([],fineP (a00 r)) else(a00 r,0)) else([],12))=_;rw[Ah rfl,Ag b]
   have C:=qh (b5r r u w q);have D:=qh (show ∀x∈a00 r,x.length<=1000000 from fun x H=>Ad (a9S r x H) u);have l:a00 r≠[]:=by
    intro e;have g:=Lib.splitB_all ⟨#[47]⟩ (by decide) 0 _ (a0c r) rfl;unfold a00 at e;rw[List.map_eq_nil_iff] at e;rw[e] at g;simp at g
   have o:=qh (aI i l);clear i l h z q u b;go_enter Tryz.func150,Tryz.ntmps150;go_wp2_with fail;refine m.out.mono ?_;rintro e y ⟨rfl,rfl⟩;go_wp2_with fail;refine C.out.mono ?_;rintro e w2 ⟨a,n,c,rfl,t,v⟩;have A:=qh (a4J a n c (a00 r) w2 t.1 D.out);have HB:=qh (aI t v);clear t v;go_wp2_with fail;refine A.out.mono ?_;rintro e I ⟨rfl,hb3⟩;have d:=qh (aI (aI (HB.out.1.1.below hb3) (HB.out.1.2.below hb3)) (HB.out.2.trans (hb3.mono HB.out.2.size)));clear hb3;obtain⟨f,p⟩:=qnm (fineP (a00 r));rw[<-p];have k:=qh p;clear p;by_cases j:f=0
   ·subst j;go_wp2_with fail;go_ret2;rw[o.out.1,Ag (by rw[<-k.out];simp)];refine⟨⟨a,n,c,rfl,d.out.1,fun B=>?_⟩,d.out.2⟩;have:=d.out.1.1.1;rw[B] at this;exact absurd (Ax.1 this) o.out.2
   ·have F:¬(f:Int)=0:=by omega
    have G:=qh j;clear j;go_wp2_with fail;go_ret2;rw[o.out.1,Ah (by rw[<-k.out];exact G.out),<-k.out];exact⟨⟨_,_,_,rfl,⟨Ss.nil _,TyS.nil _⟩,fun _=>⟨rfl,rfl⟩⟩,d.out.2⟩
 ·have m:=qh (b4A s h w);have i:a0g s=([],12):=by
   cases s with
   | nil=>rfl
   | cons c r=>
    show(if c=47 then(if r=[] then([],0) else if fineP (a00 r)≠0 then([],fineP (a00 r)) else(a00 r,0)) else([],12))=_;rw[Ag (fun e=>h (by rw[e];rfl))]
  rw[i];clear h q i;go_enter Tryz.func150,Tryz.ntmps150;go_wp2_with fail;refine m.out.mono ?_;rintro e y ⟨rfl,rfl⟩;go_wp2_with fail;go_ret2;exact⟨⟨_,_,_,rfl,⟨Ss.nil _,TyS.nil _⟩,fun _=>⟨rfl,rfl⟩⟩,Ab _ _⟩
end
section
open Go.RowKit Go.ChangeMaps Go.MapKept
abbrev TPS:TypeId:=148
def a0y:List (List UInt8)->List (List (List UInt8))×Nat
 | []=>([],0)
 | x :: r=>if (a0g x).2≠0 then([],(a0g x).2) else if(a0y r).2≠0 then([],(a0y r).2) else((a0g x).1 :: (a0y r).1,0)
theorem a5e:∀(l r:List (List UInt8)),a0y (l ++r)=if (a0y l).2=0 then(if(a0y r).2=0 then((a0y l).1 ++(a0y r).1,0) else([],(a0y r).2)) else([],(a0y l).2)
 | [],r=>by
  have f:(a0y r).2≠0->(a0y r).1=[]:=by
   intro h;cases r with
   | nil=>exact absurd rfl h
   | cons y r=>
    unfold a0y at h⊢;by_cases a:(a0g y).2≠0
    ·rw[Ah a]
    ·rw[Ag a] at h⊢;by_cases b:(a0y r).2≠0
     ·rw[Ah b]
     ·rw[Ag b] at h;exact absurd rfl h
  have c:(a0y []).2=0:=rfl;have a:(a0y []).1=[]:=rfl;rw[Ah c,a,AJ,AJ];by_cases h:(a0y r).2=0
  ·rw[Ah h,<-h]
  ·rw[Ag h,<-f h]
 | x :: l,r=>by
  have e:a0y ((x :: l) ++r)=if (a0g x).2≠0 then([],(a0g x).2) else if(a0y (l ++r)).2≠0 then([],(a0y (l ++r)).2) else((a0g x).1 :: (a0y (l ++r)).1,0):=rfl
  have d:a0y (x :: l)=if (a0g x).2≠0 then([],(a0g x).2) else if(a0y l).2≠0 then([],(a0y l).2) else((a0g x).1 :: (a0y l).1,0):=rfl
  rw[e,d,a5e l r];by_cases a:(a0g x).2=0
  ·by_cases b:(a0y l).2=0
   ·by_cases h3:(a0y r).2=0
    ·simp[a,b,h3]
    ·simp[a,b,h3]
   ·simp[a,b]
  ·simp[a]
theorem a7k(x:List UInt8):a0y [x]=if (a0g x).2≠0 then([],(a0g x).2) else([(a0g x).1],0):=by
 unfold a0y;by_cases h:(a0g x).2≠0
 ·simp only[Ah h]
 ·simp only[Ag h,a0y];simp
theorem a7l:∀(l:List (List UInt8)),(a0y l).2=0->(a0y l).1.length=l.length
 | [],_=>rfl
 | x :: r,h=>by
  unfold a0y at h⊢;by_cases a:(a0g x).2≠0
  ·rw[Ah a] at h;exact absurd h a
  ·rw[Ag a] at h⊢;by_cases b:(a0y r).2≠0
   ·rw[Ah b] at h;exact absurd h b
   ·rw[Ag b];have:=a7l r (by omega);simp[this]
def OwnP(w:World)(B:Nat)(v:Value)(ps:List (List (List UInt8))):Prop:=
 ∃b,w.ownsRow B TSS 1 v ps.length b/\∀i (h:i<ps.length),∃a n c,b[i]? =some (.slice a n c)/\Ss w a n c ps[i]/\TyS w a
theorem OwnP.nil(w:World)(B:Nat):OwnP w B (.slice none 0 0) []:=⟨[],A6 w B TSS 1,fun i h=>by simp at h⟩
theorem OwnP.below{w w':World}{B:Nat}{v:Value}{ps:List (List (List UInt8))}(h:OwnP w B v ps)(b:Below w.heap.size w w'):OwnP w' B v ps:=by
 obtain⟨d,g,j⟩:=h;refine⟨d,BC g (row:=none) ⟨b.os,b.tape,b.output,b.size,fun k hk _=>b.block k hk⟩ (by cases v.ownBlock <;>simp),fun i l=>?_⟩;obtain⟨a,n,c,h3,e,f⟩:=j i l;exact⟨a,n,c,h3,e.below b,f.below b⟩
theorem OwnP.lt{w:World}{B:Nat}{v:Value}{ps:List (List (List UInt8))}(h:OwnP w B v ps):∀k,v.ownBlock=some k->B<=k/\k<w.heap.size:=by
 obtain⟨b,a,_⟩:=h;exact A8 a
theorem OwnP.ty{w:World}{B:Nat}{v:Value}{ps:List (List (List UInt8))}(h:OwnP w B v ps):∀k,v.ownBlock=some k->∃C a,w.heap[k]? =some (.cells C TSS a):=by
 obtain⟨e,d,_⟩:=h;intro k hk;rcases d.2 with⟨rfl,_⟩ | ⟨g,cap,c,rfl,_,b,_⟩
 ·simp[Value.ownBlock] at hk
 ·have:g=k:=by simpa[Value.ownBlock] using hk
  subst this;exact⟨_,_,b⟩
theorem OwnP.head{w:World}{B:Nat}{v:Value}{p:List (List UInt8)}{ps:List (List (List UInt8))}(h:OwnP w B v (p :: ps)):
  ∃g cap a n c,v= .slice (some ⟨g,0,none⟩) (p :: ps).length cap/\w.cell? ⟨g,0,none⟩=some (.slice a n c)/\Ss w a n c p:=by
 obtain⟨l,j,e⟩:=h;obtain⟨a,n,c,h3,b,_⟩:=e 0 (by simp);rcases j.2 with⟨_,d⟩ | ⟨g,cap,i,rfl,_,f,_,_,m,k⟩
 ·simp at d
 ·refine⟨g,cap,a,n,c,rfl,?_,b⟩;rw[a0a f 0];rw[<-k,AS,Ah (by simp)] at h3;simpa using h3
theorem b0S{w w':World}{a:Option Addr}{n c:Nat}{ls:List (List UInt8)}{row:Option Nat}(h:Ss w a n c ls)(o:TyS w a)(m:w.grownBy w' row)(u:∀k,row=some k->∃C g,w.heap[k]? =some (.cells C TSS g)):Ss w' a n c ls/\TyS w' a:=by
 have f:∀p,a=some p->row≠some p.block:=fun p l e=>by
  obtain⟨C,g,j⟩:=o p l;obtain⟨x,r,d⟩:=u _ e;rw[j] at d;injection d with d;injection d with _ d;exact absurd d (by decide)
 refine⟨⟨h.1,h.2.1,h.2.2.1,?_⟩,fun p l=>?_⟩
 ·rcases h.2.2.2 with q | ⟨b,off,rfl,s,t⟩
  ·exact .inl q
  ·exact .inr ⟨b,off,rfl,Ai s m.size,fun i v=>m.cell (t i v) (fun e=>f _ rfl e.symm)⟩
 ·obtain⟨C,g,j⟩:=o p l;exact⟨C,g,(m.block _ (Array.getElem?_eq_some_iff.1 j).1 (fun e=>f p l (by first | exact e | exact e.symm))).trans j⟩
theorem b7F:(Tryz.prog.info? TSS).map (fun i=>(i.zero,i.size,i.bytes))=some (some (.slice none 0 0),1,24):=by kernel_rfl
theorem a75{w:World}(B:Nat)(v:Value)(ps:List (List (List UInt8)))(h:OwnP w B v ps)(a:Option Addr)(n c:Nat)(q:List (List UInt8))(R:Ss w a n c q)(x:TyS w a)(A:TypeId)(C:ps.length+1<=1000000)(m:B<=w.heap.size):
  ∃k w',(Builtin.append_ #[TPS,TPS] A #[v,.slice (some ⟨w.heap.size,0,none⟩) 1 1]).run Tryz.prog (w.alloc (.cells #[.slice a n c] TSS))= .ok k w'/\OwnP w' B k (ps ++[q])/\
   (w.alloc (.cells #[.slice a n c] TSS)).grownBy w' v.ownBlock:=by
 obtain⟨i,H,r,p,s⟩:=a1U b7F;have f:=(Ab _ w).alloc (Aa _) (.cells #[.slice a n c] TSS);have z:=h.below f;have d:=z.ty;obtain⟨g,y,N⟩:=z;obtain⟨k,w',E,J,t,_,_⟩:=run_append_own_at (P:=Tryz.prog) (w.alloc (.cells #[.slice a n c] TSS)) B TPS A TSS i (.slice none 0 0) 1 24 Tryz.underlying148 H r p s rfl (by decide) v ps.length g
  y ⟨w.heap.size,0,none⟩ 1 1 [.slice a n c] (by simp) (fun j u b=>by
   match j,b with
   | 0,b=>
    simp at b;subst b;rw[show(⟨w.heap.size,0,none⟩:Addr).add 0=⟨w.heap.size,0,none⟩ from rfl,Az];rfl
   | j+1,b=>simp at b) (by
   intro u b;simp at b;subst b;rfl) (by unfold maxLen;omega) (by omega) (by simp;omega)
 refine⟨k,w',E,⟨g ++[.slice a n c],?_,fun j F=>?_⟩,t⟩
 ·simpa using J
 ·have O:g.length=ps.length:=by simpa using y.1
  by_cases e:j<ps.length
  ·obtain⟨D,I,Q,G,L,M⟩:=N j e;obtain⟨l,o⟩:=b0S L M t d;refine⟨D,I,Q,?_,?_,o⟩
   ·rw[A7 (by omega)];exact G
   ·rw[BI e];exact l
  ·have K:j=ps.length:=by simp at F;omega
   obtain⟨l,o⟩:=b0S (R.below f) (x.below f) t d;refine⟨a,n,c,?_,?_,o⟩
   ·rw[AM (by omega),show j - g.length=0 by omega];rfl
   ·rw[Cd (by omega)];simpa using l
theorem a5D{w:World}{e:Array Oper}{rest:List Oper}{o:Oper}{a:Act}{Q:Exit->Act->World->Prop}(i:o.guard=none)(s x:Operand)
  (u:o.op= .call { callee:=.builtin .append,args:=#[s,x],argTypes:=#[TPS,TPS] }) (t:a.eval x= .slice (some ⟨w.heap.size,0,none⟩) 1 1)
  (B:Nat) (v:Value) (ps:List (List (List UInt8))) (p:a.eval s=v) (h:OwnP w B v ps) (d:Option Addr) (n c:Nat) (q:List (List UInt8)) (k:Ss w d n c q) (j:TyS w d) (f:ps.length+1<=1000000) (b:B<=w.heap.size)
  (l:∀g w',OwnP w' B g (ps ++[q])->(w.alloc (.cells #[.slice d n c] TSS)).grownBy w' v.ownBlock->wpList Tryz.prog e Q rest (a.put o.dst g) w'):
  wpList Tryz.prog e Q (o :: rest) a (w.alloc (.cells #[.slice d n c] TSS)):=by
 refine BX i fun _ hK=>?_
 obtain⟨g,w',m,r,h3⟩:=a75 B v ps h d n c q k j o.type f b;unfold Oper.wp execOp;simp only[u,resolve,invoke,builtin,Cs,Cr,BJ,BO,Au,Bf,p,t,m];exact hK _ _ (l g w' r h3)
def a3t(k:Nat)(p t:List UInt8):List (List UInt8):=if k=7∨k=10 then[p,t] else if k=1∨k=2∨k=3∨k=8∨k=9∨k=11∨k=12∨k=13 then[p] else[]
theorem b0g(k:Nat)(p t:List UInt8):(a3t k p t).length<=2:=by
 unfold a3t;split
 ·simp
 ·split <;>simp
theorem b7i(w:World)(p:List UInt8):Ss (w.alloc (.cells #[.string (a0c p)] TST)) (some ⟨w.heap.size,0,none⟩) 1 1 [p]:=
 ⟨rfl,Aa _,by unfold maxLen;omega,.inr ⟨w.heap.size,0,rfl,by simp,fun i a=>by
  obtain rfl:i=0:=by simp at a;omega
  rw[Az];rfl⟩⟩
theorem b7h(w:World)(p t:List UInt8):Ss (w.alloc (.cells #[.string (a0c p),.string (a0c t)] TST)) (some ⟨w.heap.size,0,none⟩) 2 2 [p,t]:=
 ⟨rfl,Aa _,by unfold maxLen;omega,.inr ⟨w.heap.size,0,rfl,by simp,fun i a=>by
  have:i=0∨i=1:=by simp at a;omega
  rcases this with rfl | rfl <;>rw [Az] <;>rfl⟩⟩
theorem a83(s k:Nat)(hk:1<=k/\k<=17)(p t:List UInt8)(hp:p.length<=1000000)(ht:t.length<=1000000)(fd H n:Int)(til:Nat)(sp:Int)(da:Option Addr)(dl dc:Nat)(w:World)(hg:Glob w):
  Calls Tryz.prog 78 #[.pointer (some ⟨s,0,none⟩),.agg (a0b (k:Int) (a0c p) (a0c t) fd H n til sp da dl dc)] w fun e w'=>
   (∃v,e= .returned (.tuple #[v,.int .i64 ((a0y (a3t k p t)).2:Int)])/\OwnP w' w.heap.size v (a0y (a3t k p t)).1)/\Below w.heap.size w w':=by
 obtain⟨ls,E⟩:=qnm (a3t k p t);rw[<-E];have z:=qh E;clear E;obtain⟨w0,A⟩:=qnm (w.alloc (.cells (a0b (k:Int) (a0c p) (a0c t) fd H n til sp da dl dc) TOp));have B:w0.heap[w.heap.size]? =some (.cells (a0b (k:Int) (a0c p) (a0c t) fd H n til sp da dl dc) TOp (0,0)):=by rw[A];exact Ae w _
 have U:Ext w.heap.size w w0:=by rw[A];exact(Ext.refl w).alloc _
 have o0:w0.cell? ⟨w.heap.size,0,none⟩=some (.int .i64 (k:Int)):=a0a B 0;have o1:w0.cell? ⟨w.heap.size,1,none⟩=some (.string (a0c p)):=a0a B 1;have o2:w0.cell? ⟨w.heap.size,2,none⟩=some (.string (a0c t)):=a0a B 2;have W:=qh A;have o:=qh U;have HG:=qh hg;have HL:=qh (aI hp ht);have HK:=qh hk;clear B A U hp ht hg hk;go_enter Tryz.func78,Tryz.ntmps78;go_upto_region 2 with fail
 rw[<-W.out];obtain⟨N,hN⟩:=qnm w.heap.size;rw[<-hN] at o o0 o1 o2⊢;have HN:=qh hN;clear hN W;go_cut [13] (fun x wx=>x= .int .i64 (k:Int)/\wx=w0);case first=>
  go_wp2_with fail;go_meet;exact⟨rfl,rfl⟩
 case rest=>
 obtain⟨rfl,rfl⟩:=hcut;go_step;go_cut [6] (fun x wx=>∃a m c,x= .slice a m c/\Ss wx a m c ls/\Ext N w wx);case first=>
  have hk:=HK.out;obtain rfl | rfl | rfl | rfl | rfl | rfl | rfl | rfl | rfl | rfl | rfl | rfl | rfl | rfl | rfl | rfl | rfl:k=1∨k=2∨k=3∨k=4∨k=5∨k=6∨k=7∨k=8∨k=9∨k=10∨k=11∨k=12∨k=13∨k=14∨k=15∨k=16∨k=17:=by omega
  all_goals clear hk
  all_goals go_wp2_with fail
  all_goals go_meet
  all_goals rw[z.out]
  all_goals first | exact⟨_,_,_,rfl,b7i _ p,o.out.alloc _⟩ | exact⟨_,_,_,rfl,b7h _ p t,o.out.alloc _⟩ | exact⟨_,_,_,rfl,Ss.nil _,o.out⟩
 case rest=>
  obtain⟨a,m,c,rfl,hS,u⟩:=hcut;have Q:∀s∈ls,s.length<=1000000:=by
   have J:=HL.out.1;have h2:=HL.out.2;intro s y;rw[z.out] at y;unfold a3t at y;split at y
   ·simp at y;rcases y with rfl | rfl <;>assumption
   ·split at y
    ·simp at y;subst y;assumption
    ·simp at y
  have Z:ls.length<=2:=by rw[z.out];exact b0g k p t
  have hG:Glob wc:=HG.out.below ((by have:=u.1;rw[HN.out] at this;exact this));have C:=hS.1;have M:=qh (aI hS (aI hG (aI Q (aI Z C))));have a0:N<=wc.heap.size:=u.2;have I:Below w.heap.size w wc:=by have:=u.1;rw[HN.out] at this;exact this
  have HE:=qh (aI I a0);have aa:m<=2:=by omega
  clear hS u I hG Q Z C o o0 o1 o2 HK HL HG z a0;have R:∀i,i<m->∃b off,a=some ⟨b,off,none⟩/\b<wc.heap.size/\∃s,ls[i]? =some s/\wc.cell? ⟨b,off+i,none⟩=some (.string (a0c s)):=fun i hi=>by
   obtain⟨b,off,J,h2,h3⟩:=M.out.1.at (by omega);have T:i<ls.length:=by have:=M.out.2.2.2.2;omega
   exact⟨b,off,J,h2,ls[i],by simp[T],h3 i T⟩
  have a8:=qh R;clear R;go_upto_region 25 with fail
  go_loopw [7,44] (fun a4 i wr=>∃(j:Nat) (ps:List (List (List UInt8))),j<=m/\i= .int .i64 (j:Int)/\OwnP wr wc.heap.size a4 ps/\a0y (ls.take j)=(ps,0)/\Ext wc.heap.size wc wr) (fun _ i _=>m - (intOf i).toNat);case atStart=>exact ⟨0,[],by omega,rfl,OwnP.nil _ _,rfl,Ext.refl wc⟩
  case round=>
   obtain⟨j,ps,hj,rfl,hO,l,u⟩:=hrel;by_cases P:j<m
   ·obtain⟨b,off,rfl,hb,x,hx,hc⟩:=a8.out j P;have a9:=u.cel hb hc;have HX:=qh (aI hx l);have a1:x.length<=1000000:=M.out.2.2.1 x (List.mem_of_getElem? hx);have a5:=qh (b3b x a1 wr (M.out.2.1.below u.1));have HO:=qh (aI hO u);have e1:(j:Int)<(m:Int):=by omega
    obtain⟨j2,X⟩:=qnm (j+1);have e3:IntKind.i64.wrap ((j:Int)+1)=(j2:Int):=by rw[Ak _ (by omega)];omega
    have HJ:=qh (aI X hj);have D:=a7l (ls.take j) (by rw[l]);have a2:=qh (show ps.length<=2 by rw[l] at D;simp at D;omega);clear hx a1 hO u l hb hc X hj D;go_wp2_with fail;refine a5.out.mono ?_;rintro e w1 ⟨⟨qa,qn,qc,rfl,⟨Y,O⟩,_⟩,hb1⟩;have f:=qh (aI Y (aI O hb1));have S:a0y (ls.take (j+1))=if (a0g x).2=0 then(ps ++[(a0g x).1],0) else([],(a0g x).2):=by
     rw[List.take_add_one,HX.out.1];simp only[Option.toList_some];rw[a5e,HX.out.2,a7k];by_cases h:(a0g x).2=0 <;>simp [h]
    have F:=qh S;clear Y O hb1 S;generalize a0g x=r at *;obtain⟨q,G⟩:=r;simp only at f F⊢;by_cases hw:G=0
    ·subst hw;have K:=HO.out.1.below f.out.2.2;have V:=HO.out.2.step f.out.2.2;go_wp2_with (at_builtin;refine a5D rfl _ _ rfl rfl wc.heap.size _ ps rfl K qa qn qc q f.out.1 f.out.2.1 (by have:=a2.out;omega) V.2 ?_;intro v' w' a6 a3);go_roundw;case rel=>
      refine⟨j2,_,by have:=HJ.out;omega,rfl,a6,?_,Ext.grown (V.alloc _) a3 (fun k hk=>(K.lt k hk).1)⟩;rw[HJ.out.1,F.out];simp
     case measure=>
      have:=HJ.out;show m - (j2:Int).toNat<m - (j:Int).toNat;omega
    ·have ab:¬(G:Int)=0:=by omega
     have HW:=qh hw;clear hw;go_wp2_with fail;go_ret2;have d:a0y ls=([],G):=by
      have e:ls=ls.take (j+1) ++ls.drop (j+1):=(List.take_append_drop _ _).symm;rw[e,a5e,F.out];simp[HW.out]
     rw[d];exact⟨⟨_,rfl,OwnP.nil _ _⟩,HE.out.1.trans ((HO.out.2.1.trans (f.out.2.2.mono HO.out.2.2)).mono (by have:=HE.out.2;rw[HN.out] at this;exact this))⟩
   ·obtain rfl:j=m:=by omega
    have d:a0y ls=(ps,0):=by rw[<-l,Am (by have:=M.out.2.2.2.2;omega)]
    have HF:=qh (aI d (aI hO u));clear d hO u l P hj;go_wp2_with fail;go_ret2;rw[HF.out.1];have L:w.heap.size<=wc.heap.size:=by have:=HE.out.2;rw[HN.out] at this;exact this
    obtain⟨vs,J,h2⟩:=HF.out.2.1;refine⟨⟨_,rfl,vs,⟨J.1,?_⟩,h2⟩,HE.out.1.trans (HF.out.2.2.1.mono L)⟩;rcases J.2 with h4 | ⟨g,cap,a7,h5,h6,h7⟩
    ·exact .inl h4
    ·exact .inr ⟨g,cap,a7,h5,Ad L h6,h7⟩
end
section
open Go.RowKit Go.ChangeMaps Go.MapKept
abbrev a2H:TypeId:=39
variable {w w' : World} {L B C s t sn c : Nat} {fp : Nat → Option Nat} {σ : StM}
def a1u(T:Tr)(p:List (List UInt8)):Nd×Nat:=if (a2d T p).2≠0 then(a0z,(a2d T p).2) else match getK (a2d T p).1 T with | some x=>(x.n,0) | none=>(a0z,20)
theorem a4R{c:Nat}{T:Tr}(h:TrOk c T)(p:List (List UInt8))(a:(a2d T p).2=0):∃x,getK (a2d T p).1 T=some x:=by
 unfold a2d at a⊢;by_cases b:fineP p≠0
 ·rw[Ah b] at a;exact absurd a b
 ·rw[Ag b] at a⊢;exact a3y h p 0 (by obtain⟨x,d,_⟩:=h.root;exact⟨x,d⟩) a
theorem a49(h:StIn w L B C s t sn fp σ)(R:TrOk c σ.T)(hc:c<=60000)(hC:C<=w.heap.size)(a:Option Addr)(n cap:Nat)(p:List (List UInt8))(hS:Ss w a n cap p)(hm:∀s∈p,s.length<=1000000):
  Calls Tryz.prog 163 #[.pointer (some ⟨s,0,none⟩),.slice a n cap] w fun e w'=>e= .returned (.tuple #[.agg (a1u σ.T p).1.cells,.int .i64 ((a1u σ.T p).2:Int)])/\Below w.heap.size w w':=by
 obtain⟨w0,j⟩:=qnm (w.alloc (.cells a42 a2H));have hb0:=qba j;have I:w0.heap[w.heap.size]? =some (.cells a42 a2H (0,0)):=by rw[j];exact Ae w _
 have P:=h.below hC hb0;obtain⟨mb,F,G,hT⟩:=P.tree;have E:=qh (a5R hT R hc a n cap p (hS.below hb0) hm);have y:=a4R R p;have u:a1u σ.T p=if (a2d σ.T p).2≠0 then(a0z,(a2d σ.T p).2) else match getK (a2d σ.T p).1 σ.T with | some x=>(x.n,0) | none=>(a0z,20):=rfl
 have HT:=qh hT;have a0:=qh R;have c0:w0.cell? ⟨s,0,none⟩=some (.pointer (some ⟨t,0,none⟩)):=a0a P.cel 0;have X:=qh P.lt;have D:=qh hb0;have M:=qh I;have A:=qh j;have g:=qh (show w.heap.size<w0.heap.size by rw[j];simp);generalize a1u σ.T p=nd at *;generalize a2d σ.T p=q at *;have k:=qh (aI u y);clear h P hb0 I j R hT hS hm u y;obtain⟨q1,Q⟩:=q;simp only at E k;go_enter Tryz.func163,Tryz.ntmps163;go_upto_region 1 with fail
 have r:=qh A.out;unfold a42 at r;rw[<-r.out];obtain⟨N,Z⟩:=qnm w.heap.size;rw[<-Z] at M g⊢;have HN:=qh Z;clear Z r A;go_wp2_with fail;refine E.out.mono ?_;rintro e w1 ⟨rfl,hb1⟩;have c1:=(hb1.cell (p:=⟨s,0,none⟩) X.out).trans c0;have W:=qh (HT.out.below hb1);have f:=(hb1.block N g.out).trans M.out;have d:=qh (aI (D.out.trans (hb1.mono D.out.size)) (aI f (Ai g.out hb1.size)));clear hb1 c0;by_cases hq:Q=0
 ·subst hq;obtain⟨x,S⟩:=k.out.2 rfl;have J:nd=(x.n,0):=by rw[k.out.1,Ag (by simp)];simp[S]
  have hi:=(a0.out.nd q1 x S).1;have Y:=qh (a3H W.out q1 x S (by omega));have m:=qh J;clear J S f hi;go_wp2_with fail;refine Y.out.mono ?_;rintro e w2 ⟨rfl,hb2⟩;have o:=(Ab w2.heap.size w2).alloc (Aa _) (.cells #[.int .i64 x.n.id,.int .i64 x.n.kind,.int .i64 x.n.links,.int .i64 x.n.size,.int .u64 (x.n.til:Int),.bool x.n.closed] a2H);have K:=(hb2.block N d.out.2.2).trans d.out.2.1;have O:N<w2.heap.size:=Ai d.out.2.2 hb2.size;have H:=(o.block N O).trans K;have i:Below w.heap.size w w2:=d.out.1.trans (hb2.mono d.out.1.size);have l:=i.trans (o.mono i.size);have b:=AF (w2.alloc (.cells #[.int .i64 x.n.id,.int .i64 x.n.kind,.int .i64 x.n.links,.int .i64 x.n.size,.int .u64 (x.n.til:Int),.bool x.n.closed] a2H)) N a42 #[.int .i64 x.n.id,.int .i64 x.n.kind,.int .i64 x.n.links,.int .i64 x.n.size,.int .u64 (x.n.til:Int),.bool x.n.closed] a2H (0,0) H;have z:=qh (aI b (a0u (C:=#[.int .i64 x.n.id,.int .i64 x.n.kind,.int .i64 x.n.links,.int .i64 x.n.size,.int .u64 (x.n.til:Int),.bool x.n.closed]) l (show w.heap.size<=N by rw[HN.out];exact Aa _)));have V:=qh H;unfold Nd.cells;clear hb2 o K O i l b;go_wp2_with (refine Ao rfl a2H (.tmp 4) (.tmp 32) rfl N #[.int .i64 x.n.id,.int .i64 x.n.kind,.int .i64 x.n.links,.int .i64 x.n.size,.int .u64 (x.n.til:Int),.bool x.n.closed] rfl rfl a2H a42 V.out (by kernel_rfl) (by kernel_rfl) (by kernel_rfl) ?_);have b:=z.out.1;have g0:_=some (Value.int .i64 x.n.id):=a0a b 0;have g1:_=some (Value.int .i64 x.n.kind):=a0a b 1;have g2:_=some (Value.int .i64 x.n.links):=a0a b 2;have g3:_=some (Value.int .i64 x.n.size):=a0a b 3;have g4:_=some (Value.int .u64 (x.n.til:Int)):=a0a b 4;have g5:_=some (Value.bool x.n.closed):=a0a b 5;refine Aj (v:=.tuple #[.agg #[.int .i64 x.n.id,.int .i64 x.n.kind,.int .i64 x.n.links,.int .i64 x.n.size,.int .u64 (x.n.til:Int),.bool x.n.closed],.int .i64 0]) (by simp[results,Tryz.results163,go_sem,g0,g1,g2,g3,g4,g5]) rfl ⟨by rw[m.out];rfl,z.out.2⟩
 ·have a1:¬(Q:Int)=0:=by omega
  have m:=qh (show nd=(a0z,Q) by rw[k.out.1,Ah hq]);have b:=AF w1 N a42 a42 a2H (0,0) f;have z:=qh (aI b (a0u (C:=a42) d.out.1 (show w.heap.size<=N by rw[HN.out];exact Aa _)));have U:=qh f;clear hq f b;go_wp2_with (refine Ao rfl a2H (.tmp 4) (.tmp 21) rfl N a42 rfl rfl a2H a42 U.out (by kernel_rfl) (by kernel_rfl) (by kernel_rfl) ?_);have b:=z.out.1;have g0:_=some (Value.int .i64 0):=a0a b 0;have g1:_=some (Value.int .i64 0):=a0a b 1;have g2:_=some (Value.int .i64 0):=a0a b 2;have g3:_=some (Value.int .i64 0):=a0a b 3;have g4:_=some (Value.int .u64 0):=a0a b 4;have g5:_=some (Value.bool false):=a0a b 5;refine Aj (v:=.tuple #[.agg #[.int .i64 0,.int .i64 0,.int .i64 0,.int .i64 0,.int .u64 0,.bool false],.int .i64 (Q:Int)]) (by simp[results,Tryz.results163,go_sem,g0,g1,g2,g3,g4,g5]) rfl ⟨by rw[m.out];rfl,z.out.2⟩
end
section
open Go.RowKit Go.ChangeMaps Go.MapKept
variable {w w' : World} {L B C s t sn c : Nat} {fp : Nat → Option Nat} {σ : StM}
theorem b4T(h:StIn w L B C s t sn fp σ):
  Calls Tryz.prog 155 #[.pointer (some ⟨s,0,none⟩),.int .i64 0] w fun e w'=>e= .returned (.tuple #[.pointer (some ⟨t,0,none⟩),.int .i64 0])/\w'=w:=by
 have a:w.cell? ⟨s,0,none⟩=some (.pointer (some ⟨t,0,none⟩)):=a0a h.cel 0;clear h;go_enter Tryz.func155,Tryz.ntmps155;go_wp2_with fail;go_ret2;exact⟨rfl,rfl⟩
theorem b29(h:StIn w L B C s t sn fp σ)(U:TrOk c σ.T)(hc:c<=60000)(a8:C<=B)(hB:B<=w.heap.size)
  (ps ts:ByteArray) (fd D n:Int) (til:Nat) (da:Option Addr) (dl Y:Nat) (a:Option Addr) (pn X:Nat) (p:List (List UInt8)) (hS:Ss w a pn X p) (hm:∀s∈p,s.length<=1000000):
  Calls Tryz.prog 90 #[.pointer (some ⟨s,0,none⟩),.agg (a0b 12 ps ts fd D n til 0 da dl Y),.slice a pn X] w fun e w'=>e= .returned (.agg (rpC ((a1u σ.T p).2:Int) 0 (.slice none 0 0) (.slice none 0 0) (a1u σ.T p).1))/\Below w.heap.size w w':=by
 obtain⟨V,g⟩:=qnm (w.alloc (.cells (a0b 12 ps ts fd D n til 0 da dl Y) TOp));obtain⟨w0,k⟩:=qnm (V.alloc (.cells rpZ TReply));have hb1:=qba g;have j:=qba k;have l:V.heap.size=w.heap.size+1:=by rw[g];simp
 have a0:w0.heap.size=w.heap.size+2:=by rw[k];simp[l]
 have hb0:Below w.heap.size w w0:=hb1.trans (j.mono hb1.size);have o:w0.heap[w.heap.size]? =some (.cells (a0b 12 ps ts fd D n til 0 da dl Y) TOp (0,0)):=(j.block _ (by omega)).trans (by rw[g];exact Ae w _);have r:w0.heap[V.heap.size]? =some (.cells rpZ TReply (0,0)):=by rw[k];exact Ae V _
 have h0:=h.below (Ad a8 hB) hb0;have o0:w0.cell? ⟨w.heap.size,0,none⟩=some (.int .i64 12):=a0a o 0;have o7:w0.cell? ⟨w.heap.size,7,none⟩=some (.int .i64 0):=a0a o 7;have a4:=qh (b4T h0);obtain⟨mb,F,G,hT⟩:=h0.tree;have K:=qh (a5R hT U hc a pn X p (hS.below hb0) hm);have I:=a4R U p;have H:a1u σ.T p=if (a2d σ.T p).2≠0 then(a0z,(a2d σ.T p).2) else match getK (a2d σ.T p).1 σ.T with | some x=>(x.n,0) | none=>(a0z,20):=rfl
 have HT:=qh hT;have a6:=qh U;generalize a1u σ.T p=nd at *;generalize a2d σ.T p=q at *;have u:=qh (aI H I);obtain⟨q1,E⟩:=q;simp only at K u;have J:=qh (aI k g);obtain⟨N,hN⟩:=qnm (w.heap.size+1);rw[l] at r;obtain⟨M,hM⟩:=qnm w.heap.size;rw[<-hN] at r;rw[<-hM] at o o0 o7;have f:=qh (aI hb0 (aI hb0.size (aI (show w.heap.size<=N by omega) (show N<w0.heap.size by omega))));have HN:=qh (aI hN (aI hM l));have a7:=qh r;have a2:=qh (show M<w0.heap.size by omega);clear h h0 hb0 j hb1 r k g U hT hS hm H I l a0 hN hM o;go_enter Tryz.func90,Tryz.ntmps90;go_upto_region 1 with fail
 have m:=qh J.out;unfold rpZ at m;rw[<-m.out.2,<-m.out.1,<-HN.out.1,<-HN.out.2.1];clear m J;go_wp2_with fail;refine a4.out.mono ?_;rintro e w2 ⟨rfl,rfl⟩;go_wp2_with fail;refine K.out.mono ?_;rintro e w3 ⟨rfl,hb3⟩;have S:=f.out.1.trans (hb3.mono f.out.2.1);have a9:=(hb3.cell (p:=⟨M,0,none⟩) a2.out).trans o0;have a1:=qh (HT.out.below hb3);have O:=(hb3.block N f.out.2.2.2).trans a7.out;have d:=qh (aI S (aI O (Ai f.out.2.2.2 hb3.size)));clear hb3 S O o0 o7;by_cases hq:E=0
 ·subst hq;obtain⟨x,W⟩:=u.out.2 rfl;have P:nd=(x.n,0):=by rw[u.out.1,Ag (by simp)];simp[W]
  have hi:=(a6.out.nd q1 x W).1;have a3:=qh (a3H a1.out q1 x W (by omega));have Z:=qh P;clear P W hi;go_wp2_with fail;refine a3.out.mono ?_;rintro e w4 ⟨rfl,hb4⟩;have A:=(Ab w4.heap.size w4).alloc (Aa _) (.cells #[.int .i64 x.n.id,.int .i64 x.n.kind,.int .i64 x.n.links,.int .i64 x.n.size,.int .u64 (x.n.til:Int),.bool x.n.closed] a2H);have i:=(hb4.block N d.out.2.2).trans d.out.2.1;have Q:N<w4.heap.size:=Ai d.out.2.2 hb4.size;have R:=(A.block N Q).trans i;have b:w.heap.size<=w3.heap.size:=by have:=d.out.2.2;have:=f.out.2.2.1;omega
  have z:Below w.heap.size w w4:=d.out.1.trans (hb4.mono b);have y:=z.trans (A.mono (Ad b hb4.size));have HF:=qh y;unfold Nd.cells;clear hb4 A i Q z y b;go_wp2_with (refine Ao rfl TReply (.tmp 6) (.tmp 44) rfl N (rpC 0 0 (.slice none 0 0) (.slice none 0 0) x.n) rfl rfl TReply rpZ R (by kernel_rfl) (by kernel_rfl) (by kernel_rfl) ?_);refine Aj (v:=.agg (rpC 0 0 (.slice none 0 0) (.slice none 0 0) x.n)) (Ap rfl _ _ N TReply _ (0,0) _ rfl (AF _ _ _ _ TReply (0,0) R) Tryz.underlying41 rfl (by kernel_rfl)) rfl ?_;rw[Z.out];exact⟨rfl,a0u HF.out f.out.2.2.1⟩
 ·have g:¬(E:Int)=0:=by omega
  have HR:=qh (show nd=(a0z,E) by rw[u.out.1,Ah hq]);have a5:=qh (a1G E w3);clear hq;go_wp2_with fail;refine a5.out.mono ?_;rintro e w4 ⟨rfl,hb4⟩;have i:=(hb4.block N d.out.2.2).trans d.out.2.1;have b:w.heap.size<=w3.heap.size:=by have:=d.out.2.2;have:=f.out.2.2.1;omega
  have HF:=qh (d.out.1.trans (hb4.mono b));unfold noC;clear hb4 b;go_wp2_with (refine Ao rfl TReply (.tmp 6) (.tmp 33) rfl N (noC (E:Int) 0) rfl rfl TReply rpZ i (by kernel_rfl) (by kernel_rfl) (by kernel_rfl) ?_);refine Aj (v:=.agg (noC (E:Int) 0)) (Ap rfl _ _ N TReply _ (0,0) _ rfl (AF _ _ _ _ TReply (0,0) i) Tryz.underlying41 rfl (by kernel_rfl)) rfl ?_;rw[HR.out];exact⟨rfl,a0u HF.out f.out.2.2.1⟩
end
end Go.Proofs.YtbemfdcjieakdaaGreatDoor
