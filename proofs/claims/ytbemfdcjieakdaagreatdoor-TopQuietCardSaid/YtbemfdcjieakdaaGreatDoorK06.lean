/- IMap; Clone; Reader; Wput. -/
import Derived.Deep.AppendLies
import Derived.Maps.Ext
import Derived.Maps.Own
import Derived.Maps.OwnSet
import Derived.Maps.RangeWalk
import Derived.WalkSpells
import Derived.Test.YtbemfdcjieakdaaGreatDoorK03
set_option maxRecDepth 100000
set_option maxHeartbeats 8000000
namespace Go.Proofs.YtbemfdcjieakdaaGreatDoor
section
open Go.RowKit
open Go.Maps (Keyed)
set_option linter.unusedSectionVars false
def RH(v:Value):Option (DataW Value×List MemPlace):=some (.held v,[])
section
variable {κ : Type} [DecidableEq κ]
structure Spell (κ:Type) where
 lit:κ->Lit
 lt:κ->κ->Bool
 inj:∀a b,(lit a).sameKey (lit b)=true↔a=b
 before:∀a b,(lit a).before (lit b)=lt a b
variable (S : Spell κ)
def a6O{a:Type}(x:κ×a):List (κ×a)->List (κ×a)
 | []=>[x]
 | y :: r=>if S.lt x.1 y.1 then x :: y :: r else y :: a6O x r
def a1w{a:Type}(k:κ)(v:a)(L:List (κ×a)):List (κ×a):=a6O S (k,v) (L.filter fun p=> !decide (p.1=k))
def a1K{a:Type}(k:κ)(L:List (κ×a)):List (κ×a):=L.filter fun p=> !decide (p.1=k)
def getK{α:Type}(k:κ)(L:List (κ×α)):Option α:=(L.find? fun p=>decide (p.1=k)).map (·.2)
def a3o(L:List (κ×Value)):DataW Value:=.map (L.map fun p=>(S.lit p.1,.held p.2))
theorem a1q(a b:κ):(S.lit a).sameKey (S.lit b)=decide (a=b):=by
 rw[Bl,S.inj];simp
theorem b2e(x:κ×Value)(L:List (κ×Value)):DataW.insert (S.lit x.1,DataW.held x.2) (L.map fun p=>(S.lit p.1,DataW.held p.2))=(a6O S x L).map fun p=>(S.lit p.1,DataW.held p.2):=by
 induction L with
 | nil=>rfl
 | cons y r a=>
  simp only[Au,DataW.insert,a6O,S.before];split
  ·rfl
  ·rw[Au,a]
theorem a7B(k:κ)(L:List (κ×Value)):(L.map fun p=>(S.lit p.1,DataW.held p.2)).filter (fun p=> !p.1.sameKey (S.lit k))=(L.filter fun p=> !decide (p.1=k)).map fun p=>(S.lit p.1,DataW.held p.2):=by
 rw[List.filter_map];congr 2;funext p;simp only[Cx,a1q]
theorem b52(k:κ)(v:Value)(L:List (κ×Value)):(a3o S L).put (S.lit k) (.held v)=a3o S (a1w S k v L):=by
 unfold a3o a1w;simp only[DataW.put];rw[a7B,b2e S (k,v)]
theorem b07(k:κ)(L:List (κ×Value)):(a3o S L).del (S.lit k)=a3o S (a1K k L):=by
 unfold a3o a1K;simp only[DataW.del];rw[a7B]
theorem a38(k:κ)(L:List (κ×Value)):Maps.has (a3o S L) (S.lit k)=(getK k L).isSome:=by
 unfold a3o getK
 induction L with
 | nil=>rfl
 | cons y r a=>
  rw[Maps.has_eq] at a⊢;simp only[Au,List.any_cons,a1q,List.find?_cons];by_cases h:y.1=k
  ·simp[h]
  ·simpa[h] using a
theorem a5h(k:κ)(z:DataW Value)(L:List (κ×Value)):(a3o S L).atKey (S.lit k) z=(match getK k L with | some v=>.held v | none=>z):=by
 unfold a3o getK
 induction L with
 | nil=>rfl
 | cons y r a=>
  simp only[DataW.atKey,Au,List.find?_cons,a1q] at a⊢;by_cases h:y.1=k
  ·simp[h]
  ·simpa[h] using a
theorem a4Q(L:List (κ×Value)):Maps.size (a3o S L)=L.length:=by simp[a3o,Maps.size]
theorem a1v{d:Type}(k j:κ)(v:d)(L:List (κ×d)):getK j (a1w S k v L)=if j=k then some v else getK j L:=by
 unfold a1w;have l:∀(L:List (κ×d)),(∀p∈L,p.1≠k)->getK j (a6O S (k,v) L)=if j=k then some v else getK j L:=by
  intro L i
  induction L with
  | nil=>
   by_cases h:j=k
   ·simp[a6O,getK,h]
   ·have c:¬k=j:=fun e=>h e.symm
    simp[a6O,getK,h,c]
  | cons y r a=>
   have g:=a (fun p f=>i p (AI _ f));have b:=i y (AL ..);unfold a6O;split
   ·by_cases h:j=k
    ·simp[getK,h]
    ·have c:¬k=j:=fun e=>h e.symm
     simp[getK,h,c]
   ·unfold getK at g⊢;simp only[List.find?_cons];by_cases h:y.1=j
    ·have:¬j=k:=by rw[<-h];exact b
     simp[h,this]
    ·simpa[h] using g
 rw[l _ (fun p f=>by simpa using(Ck.1 f).2)];by_cases h:j=k
 ·simp[h]
 ·simp only[h,Cv];unfold getK;congr 1
  induction L with
  | nil=>rfl
  | cons y r a=>
   by_cases b:y.1=k
   ·have:¬k=j:=fun e=>h e.symm
    simp[b,a,this]
   ·simp[b,a,List.find?_cons]
theorem a1j{b:Type}(k j:κ)(L:List (κ×b)):getK j (a1K k L)=if j=k then none else getK j L:=by
 unfold a1K getK;rw[List.find?_filter];by_cases h:j=k
 ·rw[Ah h];have e:(fun a:κ×b=>decide ((!decide (a.1=k))=true/\decide (a.1=j)=true))=fun _=>false:=by
   funext a;subst h;simp
  rw[e];simp
 ·rw[Ag h];have e:(fun a:κ×b=>decide ((!decide (a.1=k))=true/\decide (a.1=j)=true))=fun a=>decide (a.1=j):=by
   funext a;by_cases c:a.1=j
   ·simp[c,h]
   ·simp[c]
  rw[e]
theorem b0w{a:Type}(x:κ×a)(L:List (κ×a)):(a6O S x L).length=L.length+1:=by
 induction L with
 | nil=>rfl
 | cons y r b=>unfold a6O;split <;>simp [b]
theorem b0e{a:Type}(k:κ)(v:a)(L:List (κ×a)):(a1w S k v L).length<=L.length+1:=by
 unfold a1w;rw[b0w];have:=List.length_filter_le (fun p:κ×a=> !decide (p.1=k)) L;omega
variable {P : Program} {w : World} {b : Nat} {k : TypeId} {L : List (κ × Value)}
def MapAt(P:Program)(k:TypeId)(w:World)(b:Nat)(L:List (κ×Value)):Prop:=w.ownsMap P k RH b L.length (a3o S L)
theorem MapAt.of{n:Nat}(h:w.ownsMap P k RH b n (a3o S L)):MapAt S P k w b L:=by
 obtain⟨d,a,f,F,_,c⟩:=h;refine⟨d,a,f,F,?_,c⟩;have e:=An Maps.size c;rw[a4Q] at e;simp only[Maps.size,length_sorted,AC,Array.length_toList] at e;omega
theorem MapAt.made(w:World):MapAt S P k (w.alloc (.map #[] 0)) w.heap.size []:=World.ownsMap_made w P k RH
theorem MapAt.lt(h:MapAt S P k w b L):b<w.heap.size:=World.ownsMap.lt h
theorem MapAt.kept{w':World}{row:Option Nat}(h:MapAt S P k w b L)(c:w.grownBy w' row)(a:some b≠row):MapAt S P k w' b L:=World.ownsMap.kept h c a
theorem MapAt.same{w':World}(h:MapAt S P k w b L)(f:w'.heap[b]? =w.heap[b]?):MapAt S P k w' b L:=by
 obtain⟨c,a,d,F,e,g⟩:=h;exact⟨c,a,f.trans d,F,e,g⟩
theorem MapAt.below{w':World}(h:MapAt S P k w b L)(a:Below w.heap.size w w'):MapAt S P k w' b L:=h.same S (a.block b h.lt)
variable {x : κ} {key : Value} {t e : TypeId}
theorem MapAt.look(h:MapAt S P k w b L)(K:Keyed P k)(g:P.underlying t=some (.map k e)){z:Value}(d:(zeroValue e).run P w= .ok z w)(a:keyOf P k key=some (S.lit x)):
  (Instr.lookup t (.map (some b)) key false).run P w= .ok ((getK x L).getD z) w:=by
 obtain⟨v,ps,f,hv⟩:=World.ownsMap.lookup h K g d (zd:=.held z) (zp:=[]) rfl a;rw[a5h] at hv;rw[f];simp only[RH,BZ,Cg] at hv;have hv:=hv.1;cases c:getK x L with
 | none=>rw [c] at hv;injection hv with hv;rw[hv];rfl
 | some y=>rw [c] at hv;injection hv with hv;rw[hv];rfl
theorem MapAt.look_ok(h:MapAt S P k w b L)(K:Keyed P k)(g:P.underlying t=some (.map k e)){z:Value}(f:(zeroValue e).run P w= .ok z w)(a:keyOf P k key=some (S.lit x)):
  (Instr.lookup t (.map (some b)) key true).run P w= .ok (.tuple #[(getK x L).getD z,.bool (getK x L).isSome]) w:=by
 obtain⟨v,ps,d,hv⟩:=World.ownsMap.look_ok h K g f (zd:=.held z) (zp:=[]) rfl a;rw[a5h] at hv;rw[a38] at d;rw[d];simp only[RH,BZ,Cg] at hv;have hv:=hv.1;cases c:getK x L with
 | none=>rw [c] at hv;injection hv with hv;rw[hv];rfl
 | some y=>rw [c] at hv;injection hv with hv;rw[hv];rfl
theorem MapAt.put(h:MapAt S P k w b L)(K:Keyed P k)(f:P.underlying t=some (.map k e))(j:L.length<=1000000)(a:keyOf P k key=some (S.lit x))(v:Value):
  ∃w',(Instr.mapUpdate t (.map (some b)) key v).run P w= .ok () w'/\MapAt S P k w' b (a1w S x v L)/\w.mapTurned w' b:=by
 obtain⟨w',g,c,i⟩:=World.ownsMap.store h K f (by unfold maxLen;omega) a (val:=v) (d:=.held v) (ps:=[]) rfl;rw[b52] at c;exact⟨w',g,MapAt.of S c,i⟩
theorem MapAt.del(h:MapAt S P k w b L)(K:Keyed P k)(f:P.underlying t=some (.map k e))(a:keyOf P k key=some (S.lit x))(c:TypeId):
  ∃w',(Builtin.delete_ #[t,k] c #[.map (some b),key]).run P w= .ok (.tuple #[]) w'/\MapAt S P k w' b (a1K x L)/\w.mapTurned w' b:=by
 obtain⟨w',g,d,i⟩:=World.ownsMap.drop h K f a c;rw[b07] at d;exact⟨w',g,MapAt.of S d,i⟩
theorem MapAt.len(h:MapAt S P k w b L)(c:P.underlying t=some (.map k e))(a:TypeId):(Builtin.len_ #[t] a #[.map (some b)]).run P w= .ok (.int .i64 L.length) w:=by
 have:=World.ownsMap.len h c a
 rwa [a4Q] at this
end
def a0L:Spell (List UInt8) where
 lit s:=.string s
 lt:=bytesBefore
 inj a b:=by simp[Lit.sameKey]
 before _ _:=rfl
theorem b5s{P:Program}{k:TypeId}(hk:P.underlying k=some .string)(s:List UInt8)(h:s.length<=maxLen):keyOf P k (.string ⟨s.toArray⟩)=some (a0L.lit s):=
 by simp[keyOf,hk,mapKey,ByteArray.size,h,a0L]
def numS:Spell Nat where
 lit n:=.int .i64 (n:Int)
 lt a b:=decide (a<b)
 inj a b:=by simp[Lit.sameKey];omega
 before a b:=by simp[Lit.before]
theorem b5Q{P:Program}{k:TypeId}(hk:P.underlying k=some (.int .i64))(n:Nat)(h:n<=1000000000):keyOf P k (.int .i64 (n:Int))=some (numS.lit n):=
 Maps.keyOf_int_mk hk (by simp[Lit.wf,IntKind.min,IntKind.max,IntKind.bits,IntKind.signed];omega)
end
section
open Go.RowKit
def big:Nat:=140737488355328
theorem a0V(a:Option Addr)(c cap:Nat)(xs:List UInt8)(w:World)(h:Bs w a c cap xs)(g:c<=big):
  Calls Tryz.prog 31 #[.slice a c cap] w fun e w'=>∃v,e= .returned v/\Own w' w.heap.size v xs/\Below w.heap.size w w':=by
 have p:=fun w=>Lib.run_eql_slice_nil (P:=Tryz.prog) (w:=w)
 cases a with
 | none=>
  have f:c=0:=by
   rcases h.2.2.2 with f | ⟨b,off,j,_⟩
   ·exact f
   ·cases j
  subst f;obtain rfl:=Ax.1 h.1;go_enter Tryz.func31,Tryz.ntmps31;go_wp2;go_ret;exact⟨_,rfl,Own.nil _ _,Ab _ _⟩
 | some i=>
  go_enter Tryz.func31,Tryz.ntmps31;go_wp2_with (at_builtin;refine a1o rfl _ _ rfl (w.heap.size) _ [] rfl (Own.of_row (Row.made _ _ 0 0 [] rfl rfl (by omega) (by simp[maxLen]) rfl) (by simp)) (some i) c cap xs rfl (h.alloc _) ?_ (by simp) ?_)
  ·unfold big at g;simpa using g
  intro n o d m _;have l:=((Ext.refl w).alloc (.cells #[] TB)).grown m (fun k hk=>by simp[Value.ownBlock] at hk;omega);go_wp2_with fail;go_ret;exact⟨_,rfl,by simpa using d,l.1⟩
def Rd(w:World)(B q:Nat)(b:Option Nat)(xs:List UInt8)(c:Nat):Prop:=
 B<=q/\∃a cap,w.heap[q]? =some (.cells #[.slice a xs.length cap,.int .i64 (c:Int)] 191 (0,0))/\Bs w a xs.length cap xs/\a.map (·.block)=b/\b≠some q/\∀k,b=some k->B<=k
theorem Rd.lt{w:World}{B q b:Nat}{c:Option Nat}{xs:List UInt8}(h:Rd w B q c xs b):q<w.heap.size:=by
 obtain⟨_,a,cap,d,_⟩:=h;exact(Array.getElem?_eq_some_iff.1 d).1
def RS(q:Nat)(a:Option Nat)(k:Nat):Prop:=k=q∨a=some k
theorem Rd.chg{w w':World}{B q why:Nat}{d:Option Nat}{xs:List UInt8}{S:Nat->Prop}(h:Rd w B q d xs why)(e:Chg S w w')(f:∀k,RS q d k->¬S k):Rd w' B q d xs why:=by
 have c:=h.lt;obtain⟨i,a,cap,l,m,h3,g,j⟩:=h;exact⟨i,a,cap,(e.block q c (f q (.inl rfl))).trans l,e.bs m (fun n b=>f _ (.inr (by rw[<-h3,b];rfl))),h3,g,j⟩
theorem Rd.below{w w':World}{B q why:Nat}{a:Option Nat}{xs:List UInt8}(h:Rd w B q a xs why)(b:Below w.heap.size w w'):Rd w' B q a xs why:=
 h.chg (Chg.of_below b (fun _=>False)) (fun _ _=>id)
def a08(s:List UInt8×Nat)(n:Int):List UInt8×(List UInt8×Nat):=
 if s.2≠0 then([],s) else if(s.1.length:Int)<n then([],(s.1,10)) else if n<1 then([],s) else(s.1.take n.toNat,(s.1.drop n.toNat,0))
def RPost(w:World)(B q:Nat)(a:Option Nat)(s:List UInt8×Nat)(w':World):Prop:=
 Rd w' B q a s.1 s.2/\Chg (fun k=>k=q) w w'
theorem RPost.trans{w b w2:World}{B q:Nat}{a:Option Nat}{s:List UInt8×Nat}(c:Chg (fun k=>k=q) w b)(h:RPost b B q a s w2):RPost w B q a s w2:=
 ⟨h.1,c.trans h.2 (fun _ _ h=>h)⟩
theorem a2L{w:World}{b:Nat}{u v:Value}{t:TypeId}(h:w.heap[b]? =some (.cells #[u,v] t (0,0))):
  w.cell? ⟨b,0,none⟩=some u/\w.cell? ⟨b,1,none⟩=some v/\w.frozen? ⟨b,0,none⟩=false/\w.frozen? ⟨b,1,none⟩=false:=by simp[World.cell?,World.frozen?,h]
theorem b5h{w:World}{b:Nat}{u v x:Value}{t:TypeId}(h:w.heap[b]? =some (.cells #[u,v] t (0,0))):(w.setCell ⟨b,0,none⟩ x).heap[b]? =some (.cells #[x,v] t (0,0)):=by
 simp[World.setCell,Array.getElem?_modify,h]
theorem b5g{w:World}{b:Nat}{u v x:Value}{t:TypeId}(h:w.heap[b]? =some (.cells #[u,v] t (0,0))):(w.setCell ⟨b,1,none⟩ x).heap[b]? =some (.cells #[u,x] t (0,0)):=by
 simp[World.setCell,Array.getElem?_modify,h]
theorem Rd.set_why{w:World}{B q c:Nat}{f:Option Nat}{xs:List UInt8}(h:Rd w B q f xs c)(y:Nat):RPost w B q f (xs,y) (w.setCell ⟨q,1,none⟩ (.int .i64 (y:Int))):=by
 have g:Chg (fun k=>k=q) w (w.setCell ⟨q,1,none⟩ (.int .i64 (y:Int))):=Chg.setCell (S:=fun k=>k=q) (p:=⟨q,1,none⟩) (Chg.refl _ _) (fun _=>rfl) _;obtain⟨i,a,cap,l,m,h3,d,j⟩:=h;refine⟨⟨i,a,cap,b5g l,g.bs m (fun n b e=>d ?_),h3,d,j⟩,g⟩;rw[<-h3,b,<-e];rfl
theorem b5B(B q:Nat)(f:Option Nat)(xs:List UInt8)(b:Nat)(n:Int)(w:World)(h:Rd w B q f xs b)(g:b≠0):
  Calls Tryz.prog 53 #[.pointer (some ⟨q,0,none⟩),.int .i64 n] w fun e w'=>e= .returned (.slice none 0 0)/\w=w':=by
 obtain⟨j,a,cap,i,r,h3,c,d⟩:=h;obtain⟨s,k,o,m⟩:=a2L i;have p:((b:Int) == 0)=false:=by rw[Al];omega
 have l:((b:Int) != 0)=true:=by rw[BG];omega
 clear g h3 c d;go_enter Tryz.func53,Tryz.ntmps53;go_wp2_with fail;go_ret;exact⟨rfl,rfl⟩
theorem b5C(B q:Nat)(b:Option Nat)(xs:List UInt8)(n:Int)(w:World)(h:Rd w B q b xs 0)(k:(xs.length:Int)<n):
  Calls Tryz.prog 53 #[.pointer (some ⟨q,0,none⟩),.int .i64 n] w fun e w'=>e= .returned (.slice none 0 0)/\RPost w B q b (xs,10) w':=by
 have f:=h.set_why 10;obtain⟨i,a,cap,g,o,h3,c,d⟩:=h;obtain⟨p,j,m,l⟩:=a2L g;clear h3 c d;go_enter Tryz.func53,Tryz.ntmps53;go_wp2_with fail;go_ret;exact⟨rfl,f⟩
theorem b3q(B q:Nat)(d:Option Nat)(xs:List UInt8)(n:Int)(w:World)(h:Rd w B q d xs 0)(j:n<1):
  Calls Tryz.prog 53 #[.pointer (some ⟨q,0,none⟩),.int .i64 n] w fun e w'=>e= .returned (.slice none 0 0)/\w=w':=by
 obtain⟨g,a,cap,f,o,h3,b,c⟩:=h;obtain⟨p,i,l,k⟩:=a2L f;have m:decide ((xs.length:Int)<n)=false:=by simp;omega
 clear h3 b c;go_enter Tryz.func53,Tryz.ntmps53;go_wp2_with fail;go_ret;exact⟨rfl,rfl⟩
theorem Rd.advance{w g:World}{B q f:Nat}{l:Option Nat}{xs ys:List UInt8}(h:Rd w B q l xs f)(r:Below w.heap.size w g){d:Option Addr}{c b:Nat}(s:Bs g d c b ys)(m:d.map (·.block)=l):
  RPost w B q l (ys,f) (g.setCell ⟨q,0,none⟩ (.slice d c b)):=by
 have j:=h.lt;have o:Chg (fun k=>k=q) g (g.setCell ⟨q,0,none⟩ (.slice d c b)):=Chg.setCell (S:=fun k=>k=q) (p:=⟨q,0,none⟩) (Chg.refl _ _) (fun _=>rfl) _;obtain⟨t,a,cap,v,y,h3,n,u⟩:=h;obtain rfl:=s.1;refine⟨⟨t,d,b,b5h ((r.block q j).trans v),o.bs s (fun x i e=>n ?_),m,n,u⟩,(Chg.of_below r _).trans o (fun _ _ h=>h)⟩;rw[<-m,i,<-e];rfl
theorem b3p(B q:Nat)(rb:Option Nat)(xs:List UInt8)(n:Nat)(w:World)(h:Rd w B q rb xs 0)(M:1<=n)(z:n<=xs.length)(N:xs.length<=big):
  Calls Tryz.prog 53 #[.pointer (some ⟨q,0,none⟩),.int .i64 (n:Int)] w fun e w'=>∃v,e= .returned v/\Own w' w.heap.size v (xs.take n)/\RPost w B q rb (xs.drop n,0) w':=by
 have c:=h.lt;have k:=h;obtain⟨L,a,cap,G,t,h3,O,Q⟩:=h;obtain⟨A,P,C,J⟩:=a2L G;have R:decide ((xs.length:Int)<(n:Int))=false:=by simp;omega
 have E:=t.2.1;have D:=t.take z;have f:=t.drop z;by_cases d:cap=n
 ·rw[Ah d] at f;subst d;go_enter Tryz.func53,Tryz.ntmps53;go_wp2_with fail;refine(a0V a cap cap _ _ D (by omega)).mono ?_;rintro e r ⟨v,rfl,u,b⟩;have m:=(b.cell (p:=⟨q,0,none⟩) c).trans A;have s:=(b.frozen (p:=⟨q,0,none⟩) c).trans C;have l:=k.advance b (f.below b) h3;have j:Own (r.setCell ⟨q,0,none⟩ (.slice a (xs.length - cap) (cap - cap))) w.heap.size v (xs.take cap):=by
   rcases u.parts with⟨rfl,y⟩ | ⟨g,H,rfl,o,x⟩
   ·rw[y];exact Own.nil _ _
   ·exact Own.of_row (x.setOther (a:=⟨q,0,none⟩) (by show g≠q;omega) _) o
  have F:xs.length - cap=0:=by omega
  have I:cap - cap=0:=by omega
  rw[F,I] at j l;clear k h3 f;go_wp2_with fail;go_ret;exact⟨_,rfl,j,l⟩
 ·rw[Ag d] at f;go_enter Tryz.func53,Tryz.ntmps53;go_wp2_with fail;refine(a0V a n cap _ _ D (by omega)).mono ?_;rintro e r ⟨v,rfl,u,b⟩;have m:=(b.cell (p:=⟨q,0,none⟩) c).trans A;have s:=(b.frozen (p:=⟨q,0,none⟩) c).trans C;have i:(a.map (·.add n)).map (·.block)=rb:=by
   rw[<-h3];cases a with
   | none=>rfl
   | some K=>simp only[Option.map_some,BZ];unfold Addr.add;split <;>rfl
  have l:=k.advance b (f.below b) i;have j:Own (r.setCell ⟨q,0,none⟩ (.slice (a.map (·.add n)) (xs.length - n) (cap - n))) w.heap.size v (xs.take n):=by
   rcases u.parts with⟨rfl,y⟩ | ⟨g,H,rfl,o,x⟩
   ·rw[y];exact Own.nil _ _
   ·exact Own.of_row (x.setOther (a:=⟨q,0,none⟩) (by show g≠q;omega) _) o
  clear k h3 i f;go_wp2_with fail;go_ret;exact⟨_,rfl,j,l⟩
theorem a2W(B q:Nat)(b:Option Nat)(xs:List UInt8)(a:Nat)(n:Int)(w:World)(h:Rd w B q b xs a)(g:xs.length<=big):
  Calls Tryz.prog 53 #[.pointer (some ⟨q,0,none⟩),.int .i64 n] w fun e w'=>∃v,e= .returned v/\Own w' w.heap.size v (a08 (xs,a) n).1/\RPost w B q b (a08 (xs,a) n).2 w':=by
 unfold a08;by_cases d:a≠0
 ·rw[Ah d];refine(b5B B q b xs a n w h d).mono ?_;rintro e w' ⟨rfl,rfl⟩;exact⟨_,rfl,Own.nil _ _,h,Chg.refl _ _⟩
 ·obtain rfl:a=0:=by omega
  rw[Ag d];by_cases c:(xs.length:Int)<n
  ·rw[Ah c];refine(b5C B q b xs n w h c).mono ?_;rintro e w' ⟨rfl,i⟩;exact⟨_,rfl,Own.nil _ _,i⟩
  ·rw[Ag c];by_cases f:n<1
   ·rw[Ah f];refine(b3q B q b xs n w h f).mono ?_;rintro e w' ⟨rfl,rfl⟩;exact⟨_,rfl,Own.nil _ _,h,Chg.refl _ _⟩
   ·rw[Ag f];obtain⟨m,rfl⟩:=Int.eq_ofNat_of_zero_le (show 0<=n by omega);exact b3p B q b xs m w h (by omega) (by omega) g
theorem Own.base{w:World}{B B':Nat}{v:Value}{xs:List UInt8}(h:Own w B v xs)(c:B'<=B):Own w B' v xs:=by
 rcases h.parts with⟨rfl,rfl⟩ | ⟨g,cap,rfl,b,a⟩
 ·exact Own.nil _ _
 ·exact Own.of_row a (by omega)
def num(ys:List UInt8):Nat:=ys.foldl (fun n c=>n * 256+c.toNat) 0
theorem b5O(ys:List UInt8)(y:UInt8):num (ys ++[y])=num ys * 256+y.toNat:=by simp[num]
theorem b05(ys:List UInt8):num ys<256 ^ ys.length:=by
 have:∀n,ys.foldl (fun n c=>n * 256+c.toNat) n<(n+1) * 256 ^ ys.length:=by
  induction ys with
  | nil=>intro n;simp
  | cons y ys b=>
   intro n;have a:=b (n * 256+y.toNat);have d:=y.toNat_lt;simp only[List.foldl_cons,AA,Nat.pow_succ];refine Ai a ?_;rw[Cy (256 ^ ys.length) 256,<-Nat.mul_assoc];exact Nat.mul_le_mul_right _ (by omega)
 simpa[num] using this 0
theorem b7x(n c:Nat)(d:n<72057594037927936)(e:c<256):bits .or .u64 (IntKind.u64.wrap ((n:Int) * 256)) (c:Int)=((n * 256+c:Nat):Int):=by
 have a:IntKind.u64.wrap ((n:Int) * 256)=((n * 256:Nat):Int):=by rw[IntKind.wrap_u64];omega
 rw[a,u64_or_nat _ _ (by omega) (by omega)];congr 1;have:=Nat.two_pow_add_eq_or_of_lt (i:=8) (b:=c) (by omega) n;rw[Cy] at this;exact this.symm
theorem a79(B q:Nat)(g:Option Nat)(xs:List UInt8)(c:Nat)(n:Nat)(w:World)(h:Rd w B q g xs c)(j:xs.length<=big)(E:n<=8):
  Calls Tryz.prog 117 #[.pointer (some ⟨q,0,none⟩),.int .i64 (n:Int)] w fun e w'=>e= .returned (.int .u64 (num (a08 (xs,c) n).1:Nat))/\RPost w B q g (a08 (xs,c) n).2 w':=by
 have C:(a08 (xs,c) n).1.length<=8:=by
  unfold a08;split
  ·simp
  ·split
   ·simp
   ·split
    ·simp
    ·simp;omega
 have l:=a2W B q g xs c n w h j;generalize(a08 (xs,c) n).1=ys at *;generalize(a08 (xs,c) n).2=s at *;go_enter Tryz.func117,Tryz.ntmps117;go_wp2_with fail;refine l.mono ?_;clear l;rintro e m ⟨v,rfl,A,r⟩;obtain⟨a,cap,rfl,o⟩:=A.bs;go_wp2_with fail;go_loop [5,12] (fun t i=>∃k:Nat,k<=ys.length/\i= .int .i64 k/\t= .int .u64 (num (ys.take k):Nat)) (fun _ i=>ys.length - (intOf i).toNat);case atStart=>exact ⟨0,by omega,rfl,rfl⟩
 case round=>
  obtain⟨k,hk,rfl,rfl⟩:=hrel;by_cases f:k<ys.length
  ·obtain⟨b,off,p,j,z⟩:∃b off,a=some ⟨b,off,none⟩/\b<m.heap.size/\∀i (h:i<ys.length),m.cell? ⟨b,off+i,none⟩=some (.int .u8 (ys[i].toNat:Int)):=by
    rcases o.2.2.2 with h | h
    ·omega
    ·exact h
   subst p;have y:=z k f;have d:=b7x (num (ys.take k)) (ys[k]).toNat (by
    have D:=b05 (ys.take k);have F:(256:Nat) ^ (ys.take k).length<=256 ^ 7:=B2 (by omega) (by simp;omega);omega) (UInt8.toNat_lt _)
   rw[<-b5O,<-Ar f] at d;have x:=qh d;clear d;have u:=(ys[k]).toNat_lt;go_wp2_with fail;rw[x.out];go_round;case rel=>exact ⟨k+1,by omega,by go_num,rfl⟩
   case measure=>simp [intOf];omega
  ·obtain rfl:k=ys.length:=by omega
   go_wp2_with fail;go_ret;exact⟨rfl,r⟩
theorem a4G(s:List UInt8×Nat)(n:Nat):(a08 s n).1.length<=n:=by
 unfold a08;split
 ·simp
 ·split
  ·simp
  ·split
   ·simp
   ·simp;omega
theorem a0P(s:List UInt8×Nat)(n:Int):(a08 s n).2.1.length<=s.1.length:=by
 unfold a08;split
 ·simp
 ·split
  ·simp
  ·split
   ·simp
   ·simp
def a1l(s:List UInt8×Nat):Nat×(List UInt8×Nat):=(num (a08 s 1).1,(a08 s 1).2)
def a0o(s:List UInt8×Nat):Nat×(List UInt8×Nat):=(num (a08 s 2).1,(a08 s 2).2)
def a2n(s:List UInt8×Nat):Nat×(List UInt8×Nat):=(num (a08 s 8).1,(a08 s 8).2)
def a4H(s:List UInt8×Nat):Bool×(List UInt8×Nat):=if 1<(a1l s).1 then(false,((a1l s).2.1,12)) else((a1l s).1 == 1,(a1l s).2)
def a5c(s:List UInt8×Nat):List UInt8×(List UInt8×Nat):=a08 (a0o s).2 (a0o s).1
def rdLeft(s:List UInt8×Nat):Nat:=if s.2≠0 then 0 else s.1.length
def rdEnd(s:List UInt8×Nat):Nat:=if s.2=0/\0<s.1.length then 11 else s.2
theorem a6i(s:List UInt8×Nat):(a1l s).1<256:=by
 have b:=b05 (a08 s 1).1;have a:=a4G s 1;have:(256:Nat) ^ (a08 s 1).1.length<=256 ^ 1:=B2 (by omega) a;unfold a1l;simp only;omega
theorem a3g(s:List UInt8×Nat):(a0o s).1<65536:=by
 have b:=b05 (a08 s 2).1;have a:=a4G s 2;have:(256:Nat) ^ (a08 s 2).1.length<=256 ^ 2:=B2 (by omega) a;unfold a0o;simp only;omega
theorem a8Z(s:List UInt8×Nat):(a2n s).1<18446744073709551616:=by
 have b:=b05 (a08 s 8).1;have a:=a4G s 8;have:(256:Nat) ^ (a08 s 8).1.length<=256 ^ 8:=B2 (by omega) a;unfold a2n;simp only;omega
theorem a3N(B q:Nat)(a:Option Nat)(s:List UInt8×Nat)(w:World)(h:Rd w B q a s.1 s.2)(d:s.1.length<=big):
  Calls Tryz.prog 278 #[.pointer (some ⟨q,0,none⟩)] w fun e w'=>e= .returned (.int .i64 ((a1l s).1:Nat))/\RPost w B q a (a1l s).2 w':=by
 have b:=a79 B q a s.1 s.2 1 w h d (by omega);have f:=a6i s;change Calls _ _ _ _ (fun e w'=>e= .returned (.int .u64 ((a1l s).1:Nat))/\RPost w B q a (a1l s).2 w') at b;generalize(a1l s).1=n at *;generalize(a1l s).2=t at *;go_enter Tryz.func278,Tryz.ntmps278;go_wp2_with fail;refine b.mono ?_;clear b;rintro e g ⟨rfl,c⟩;go_wp2_with fail;go_ret;exact⟨rfl,c⟩
theorem a1S(B q:Nat)(a:Option Nat)(s:List UInt8×Nat)(w:World)(h:Rd w B q a s.1 s.2)(d:s.1.length<=big):
  Calls Tryz.prog 54 #[.pointer (some ⟨q,0,none⟩)] w fun e w'=>e= .returned (.int .i64 ((a0o s).1:Nat))/\RPost w B q a (a0o s).2 w':=by
 have b:=a79 B q a s.1 s.2 2 w h d (by omega);have f:=a3g s;change Calls _ _ _ _ (fun e w'=>e= .returned (.int .u64 ((a0o s).1:Nat))/\RPost w B q a (a0o s).2 w') at b;generalize(a0o s).1=n at *;generalize(a0o s).2=t at *;go_enter Tryz.func54,Tryz.ntmps54;go_wp2_with fail;refine b.mono ?_;clear b;rintro e g ⟨rfl,c⟩;go_wp2_with fail;go_ret;exact⟨rfl,c⟩
theorem a3L(B q:Nat)(a:Option Nat)(s:List UInt8×Nat)(w:World)(h:Rd w B q a s.1 s.2)(d:s.1.length<=big):
  Calls Tryz.prog 180 #[.pointer (some ⟨q,0,none⟩)] w fun e w'=>e= .returned (.int .u64 ((a2n s).1:Nat))/\RPost w B q a (a2n s).2 w':=by
 have b:=a79 B q a s.1 s.2 8 w h d (by omega);change Calls _ _ _ _ (fun e w'=>e= .returned (.int .u64 ((a2n s).1:Nat))/\RPost w B q a (a2n s).2 w') at b;generalize(a2n s).1=n at *;generalize(a2n s).2=t at *;go_enter Tryz.func180,Tryz.ntmps180;go_wp2_with fail;refine b.mono ?_;clear b;rintro e f ⟨rfl,c⟩;go_wp2_with fail;go_ret;exact⟨rfl,c⟩
theorem b3s(B q:Nat)(d:Option Nat)(s:List UInt8×Nat)(w:World)(h:Rd w B q d s.1 s.2)(k:s.1.length<=big):
  Calls Tryz.prog 352 #[.pointer (some ⟨q,0,none⟩)] w fun e w'=>e= .returned (.bool (a4H s).1)/\RPost w B q d (a4H s).2 w':=by
 have c:=a3N B q d s w h k;unfold a4H;generalize(a1l s).1=n at *;generalize(a1l s).2=t at *;by_cases f:1<n
 ·rw[Ah f];have i:((n:Int) == 1)=false:=by rw[Al];omega
  go_enter Tryz.func352,Tryz.ntmps352;go_wp2_with fail;refine c.mono ?_;clear c;rintro e l ⟨rfl,b⟩;have j:=RPost.trans b.2 (b.1.set_why 12);obtain⟨_,a,cap,g,_⟩:=b.1;obtain⟨r,m,p,o⟩:=a2L g;clear g b;go_wp2_with fail;go_ret;exact⟨rfl,j⟩
 ·rw[Ag f];have HB:=qh (show((n:Int) == 1)=(n == 1) by rw[Bl];simp;omega);go_enter Tryz.func352,Tryz.ntmps352;go_wp2_with fail;refine c.mono ?_;clear c;rintro e l ⟨rfl,b⟩;go_wp2_with fail;go_ret;exact⟨by rw[<-HB.out];rfl,b⟩
theorem a7j(B q:Nat)(b:Option Nat)(s:List UInt8×Nat)(w:World)(h:Rd w B q b s.1 s.2)(g:s.1.length<=big):
  Calls Tryz.prog 279 #[.pointer (some ⟨q,0,none⟩)] w fun e w'=>∃v,e= .returned v/\Own w' w.heap.size v (a5c s).1/\RPost w B q b (a5c s).2 w':=by
 have f:=a1S B q b s w h g;have k:(a0o s).2.1.length<=s.1.length:=a0P s 2;unfold a5c;generalize(a0o s).1=n at *;generalize(a0o s).2=t at *;go_enter Tryz.func279,Tryz.ntmps279;go_wp2_with fail;refine f.mono ?_;clear f;rintro e i ⟨rfl,c⟩;have a:=a2W B q b t.1 t.2 n i c.1 (by omega);go_wp2_with fail;refine a.mono ?_;clear a;rintro e w2 ⟨v,rfl,j,d⟩;go_wp2_with fail;go_ret;exact⟨_,rfl,Own.base j c.2.size,RPost.trans c.2 d⟩
theorem a8U(B q:Nat)(i:Option Nat)(s:List UInt8×Nat)(w:World)(h:Rd w B q i s.1 s.2):
  Calls Tryz.prog 298 #[.pointer (some ⟨q,0,none⟩)] w fun e w'=>e= .returned (.int .i64 (rdLeft s:Nat))/\w=w':=by
 obtain⟨j,a,cap,c,n,h3,d,f⟩:=h;obtain⟨o,k,m,l⟩:=a2L c;clear c h3 d f;unfold rdLeft;by_cases b:s.2≠0
 ·rw[Ah b];have g:((s.2:Int) != 0)=true:=by rw[BG];omega
  go_enter Tryz.func298,Tryz.ntmps298;go_wp2_with fail;go_ret;exact⟨rfl,rfl⟩
 ·rw[Ag b];have g:((s.2:Int) != 0)=false:=by rw[Bz];omega
  go_enter Tryz.func298,Tryz.ntmps298;go_wp2_with fail;go_ret;exact⟨rfl,rfl⟩
theorem b0Y(B q:Nat)(k:Option Nat)(s:List UInt8×Nat)(w:World)(h:Rd w B q k s.1 s.2):
  Calls Tryz.prog 280 #[.pointer (some ⟨q,0,none⟩)] w fun e w'=>e= .returned (.int .i64 (rdEnd s:Nat))/\w=w':=by
 obtain⟨xs,b⟩:=s;obtain⟨l,a,cap,f,t,h3,g,j⟩:=h;obtain⟨u,m,p,o⟩:=a2L f;clear f h3 g j;unfold rdEnd;simp only at *;by_cases d:b=0
 ·subst d;by_cases c:0<xs.length
  ·rw[Ah ⟨rfl,c⟩];go_enter Tryz.func280,Tryz.ntmps280;go_wp2_with fail;go_ret;exact⟨rfl,rfl⟩
  ·rw[Ag (fun h=>c h.2)];have r:decide ((0:Int)<(xs.length:Int))=false:=Aq (by omega);have i:xs.length=0:=by omega
   clear c;go_enter Tryz.func280,Tryz.ntmps280;go_wp2_with fail;go_ret;exact⟨rfl,rfl⟩
 ·rw[Ag (fun h=>d h.1)];have n:((b:Int) == 0)=false:=by rw[Al];omega
  clear d;go_enter Tryz.func280,Tryz.ntmps280;go_wp2_with fail;go_ret;exact⟨rfl,rfl⟩
theorem a78(a:Option Addr)(b cap:Nat)(xs:List UInt8)(w:World)(h:Bs w a b cap xs)(m:b<=big):
  Calls Tryz.prog 52 #[.slice a b cap] w fun e w'=>∃q k,e= .returned (.pointer (some ⟨q,0,none⟩))/\Rd w' w.heap.size q k xs 0/\Below w.heap.size w w':=by
 go_enter Tryz.func52,Tryz.ntmps52;go_wp2_with fail;refine(a0V a b cap xs _ h m).mono ?_;rintro e d ⟨v,rfl,n,c⟩;have i:=c.size;rcases n.parts with⟨rfl,rfl⟩ | ⟨g,j,rfl,o,f⟩
 ·go_wp2_with fail;go_ret;exact⟨_,none,rfl,⟨i,none,0,Ae d _,Bs.nil _,rfl,by simp,by simp⟩,((Ext.refl w).step c |>.alloc _).1⟩
 ·have l:=f.lt;go_wp2_with fail;go_ret;exact⟨_,some g,rfl,⟨i,_,j,Ae d _,(f.alloc _).bs,rfl,by simp;omega,by simp;omega⟩,((Ext.refl w).step c |>.alloc _).1⟩
def Wr(w:World)(B p:Nat)(g:Option Nat)(xs:List UInt8):Prop:=
 B<=p/\∃v,w.heap[p]? =some (.cells #[v] 239 (0,0))/\Own w B v xs/\v.ownBlock=g/\g≠some p
theorem Wr.lt{w:World}{B p:Nat}{g:Option Nat}{xs:List UInt8}(h:Wr w B p g xs):p<w.heap.size:=by
 obtain⟨_,v,a,_⟩:=h;exact(Array.getElem?_eq_some_iff.1 a).1
theorem Wr.base{w:World}{B p:Nat}{g:Option Nat}{xs:List UInt8}(h:Wr w B p g xs):B<=p:=h.1
theorem Wr.row_lt{w:World}{B p g:Nat}{xs:List UInt8}(h:Wr w B p (some g) xs):g<w.heap.size/\B<=g:=by
 obtain⟨_,v,_,b,h3,_⟩:=h;rcases b.parts with⟨rfl,_⟩ | ⟨d,cap,rfl,c,a⟩
 ·simp[Value.ownBlock] at h3
 ·simp[Value.ownBlock] at h3;subst h3;exact⟨a.lt,c⟩
def WS(p:Nat)(g:Option Nat)(k:Nat):Prop:=k=p∨g=some k
theorem Wr.chg{w w':World}{B p:Nat}{g:Option Nat}{xs:List UInt8}{S:Nat->Prop}(h:Wr w B p g xs)(b:Chg S w w')(c:∀k,WS p g k->¬S k):Wr w' B p g xs:=by
 have a:=h.lt;obtain⟨e,v,f,i,h3,d⟩:=h;exact⟨e,v,(b.block p a (c p (.inl rfl))).trans f,b.own i (fun k hk=>c k (.inr (h3 ▸ hk))),h3,d⟩
theorem Wr.below{w w':World}{B p:Nat}{g:Option Nat}{xs:List UInt8}(h:Wr w B p g xs)(a:Below w.heap.size w w'):Wr w' B p g xs:=
 h.chg (Chg.of_below a (fun _=>False)) (fun _ _=>id)
theorem Wr.belowOf{w w':World}{B p:Nat}{g:Option Nat}{xs:List UInt8}(h:Wr w B p g xs)(b:Chg (WS p g) w w'):Below B w w':=by
 refine b.below (by have:=h.lt;have:=h.base;omega) (fun k _ a=>?_);rcases a with rfl | rfl
 ·exact h.base
 ·exact h.row_lt.2
theorem Ext.to{B:Nat}{a w w':World}(h:Ext B a w)(b:Below B w w'):Ext B a w':=⟨h.1.trans b,Ad h.2 b.size⟩
def be(n:Nat):Nat->List UInt8
 | 0=>[]
 | k+1=>UInt8.ofNat (n / 256 ^ k) :: be n k
theorem a0d(n k:Nat):(be n k).length=k:=by induction k with
 | zero=>rfl
 | succ k a=>simp [be,a]
theorem b09{w:World}{p:Nat}{o:Obj}(h:p<w.heap.size):p<(w.alloc o).heap.size:=by simp;omega
def WPost(w:World)(B p:Nat)(g:Option Nat)(xs:List UInt8)(w':World):Prop:=
 ∃a,Wr w' B p a xs/\Chg (WS p g) w w'/\(a=g∨∃k,a=some k/\w.heap.size<=k)
theorem WPost.trans{w d w2:World}{B p:Nat}{g g1:Option Nat}{xs:List UInt8}(b:Chg (WS p g) w d)(c:g1=g∨∃k,g1=some k/\w.heap.size<=k)(h:WPost d B p g1 xs w2):WPost w B p g xs w2:=by
 obtain⟨g2,e,f,h3⟩:=h;refine⟨g2,e,b.trans f (fun i j a=>?_),?_⟩
 ·rcases a with rfl | a
  ·exact .inl rfl
  ·rcases c with rfl | ⟨k,rfl,hk⟩
   ·exact .inr a
   ·cases a;omega
 ·rcases h3 with rfl | ⟨k,rfl,hk⟩
  ·exact c
  ·exact .inr ⟨k,rfl,Ad b.size hk⟩
theorem WPost.store{wr W b:World}{B p:Nat}{g1:Option Nat}{ys m:List UInt8}{v V:Value}(h:Wr wr B p g1 ys)(hv:wr.heap[p]? =some (.cells #[v] 239 (0,0)))(a:v.ownBlock=g1)
  (i:Below wr.heap.size wr W) (r:Own b B V m) (o:W.grownBy b v.ownBlock) (h3:V.ownBlock=v.ownBlock∨V.ownBlock=some W.heap.size):WPost wr B p g1 m (b.setCell ⟨p,0,none⟩ V):=by
 have g:=h.lt;obtain⟨s,t,q,_,n,c⟩:=h;have j:p<W.heap.size:=Ai g i.size;have d:V.ownBlock≠some p:=by
  rcases h3 with h3 | h3
  ·rw[h3,a];exact c
  ·rw[h3];intro e;cases e;omega
 have l:b.heap[p]? =some (.cells #[v] 239 (0,0)):=(o.block p j (fun e=>c (a ▸ e.symm))).trans ((i.block p g).trans hv);have f:Chg (fun k=>k=p) b (b.setCell ⟨p,0,none⟩ V):=Chg.setCell (S:=fun k=>k=p) (p:=⟨p,0,none⟩) (Chg.refl _ _) (fun _=>rfl) V;refine⟨V.ownBlock,⟨s,V,?_,f.own r (fun k hk e=>d (by rw[hk,e])),rfl,d⟩,?_,?_⟩
 ·exact one_setCell l
 ·refine((Chg.of_below i _).grown o (fun k _ hk=>.inr (a ▸ hk))).setCell (fun _=>.inl rfl) V
 ·rcases h3 with h3 | h3
  ·exact .inl (h3.trans a)
  ·exact .inr ⟨_,h3,i.size⟩
theorem b0d(B p n size:Nat)(g:Option Nat)(xs:List UInt8)(w:World)(h:Wr w B p g xs)(P:size<=8)(L:xs.length+8<=big):
  Calls Tryz.prog 147 #[.pointer (some ⟨p,0,none⟩),.int .u64 (n:Int),.int .i64 (size:Int)] w fun e w'=>e= .returned (.tuple #[])/\WPost w B p g (xs ++be n size) w':=by
 go_enter Tryz.func147,Tryz.ntmps147;go_wp2_with fail;go_loopw [6] (fun i wr=>∃k:Nat,∃done:List UInt8,k<=size/\i= .int .i64 ((k:Int) - 1)/\done ++be n k=be n size/\WPost w B p g (xs ++done) wr) (fun i _=>(intOf i+1).toNat);case atStart=>exact ⟨size,[],by omega,rfl,rfl,g,by simpa using h,Chg.refl _ _,.inl rfl⟩
 case round=>
  obtain⟨k,done,hk,rfl,t,g1,s,y,x⟩:=hrel;by_cases J:0<k
  ·obtain⟨j,rfl⟩:∃j,k=j+1:=⟨k - 1,by omega⟩
   rw[show((j+1:Nat):Int) - 1=(j:Int) by omega];have d:=s.lt;obtain⟨D,v,hv,a,b,c⟩:=s;have R:=cell_of_one hv;have O:=free_of_one hv;have G:=qh (show(#[.int .u8 (IntKind.u8.wrap ((n:Int) / 2 ^ (8 * (j:Int)).toNat))]:Array Value).toList.take 1=[UInt8.ofNat (n / 256 ^ j)].map bv by
    have z:(8 * (j:Int)).toNat=8 * j:=by omega
    have H:((n:Int) / 2 ^ (8 * j))=((n / 256 ^ j:Nat):Int):=by rw[show(256:Nat)=2 ^ 8 by decide,<-Nat.pow_mul];simp
    rw[z,H];simp[bv,IntKind.wrap_u8'])
   have F:IntKind.i64.wrap (8 * (j:Int))=8 * (j:Int):=Ak _ (by omega);have K:done.length+(j+1)=size:=by have:=An List.length t;simpa[a0d] using this
   have C:(xs ++done).length+1<=big:=by simp;omega
   have f:some p≠v.ownBlock:=fun e=>c (b ▸ e.symm)
   go_wp2_with fail;have q:=qh (show(xs ++done ++[UInt8.ofNat (n / 256 ^ j)]).length=xs.length+(done.length+1) by simp);have m:1<=maxLen:=by simp[maxLen]
   go_region_law (refine a2l rfl _ _ rfl B v (xs ++done) rfl ?_ (some ⟨wr.heap.size,0,none⟩) 1 1 [UInt8.ofNat (n / 256 ^ j)] rfl ?_ C ?_ (fun N Q l r h3=>?_);(exact(a.below (Ab _ _).drew).alloc _);(exact Bs.drew (Bs.newRow _ _ _ _ _ _ _ rfl (Aa _) m G.out));(simp;omega);obtain⟨M,u,rfl,_⟩:=l.bs;have E:=(World.grownBy.cell_far r ⟨p,0,none⟩ (b09 d) f);have A:=(World.grownBy.frozen_far r ⟨p,0,none⟩ (b09 d) f));all_goals
    rw[q.out] at l h3;have I:=WPost.trans y x (WPost.store ⟨D,v,hv,a,b,c⟩ hv b (((Ab _ _).alloc (Aa _) _).drew) l r h3);go_wp2_with fail;go_roundw;case rel=>exact ⟨j,done ++[UInt8.ofNat (n / 256 ^ j)],by omega,rfl,by rw[<-t];simp[be],by simpa using I⟩
    case measure=>simp [intOf]
  ·obtain rfl:k=0:=by omega
   have o:done=be n size:=by simpa[be] using t
   subst o;go_wp2_with fail;go_end0;exact⟨rfl,g1,s,y,x⟩
end
end Go.Proofs.YtbemfdcjieakdaaGreatDoor
