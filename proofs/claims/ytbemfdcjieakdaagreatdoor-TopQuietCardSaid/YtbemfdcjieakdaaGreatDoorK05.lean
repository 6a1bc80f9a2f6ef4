/- ShaWrite. -/
import Derived.Deep.AppendLies
import Derived.Test.YtbemfdcjieakdaaGreatDoorK04
set_option maxRecDepth 100000
set_option maxHeartbeats 8000000
namespace Go.Proofs.YtbemfdcjieakdaaGreatDoor
section
open Go.RowKit
def SS(p:Nat)(g:Option Nat)(k:Nat):Prop:=k=p∨g=some k
def SPost(w:World)(B p:Nat)(g:Option Nat)(xs:List UInt8)(w':World):Prop:=
 ∃a,Strm w' B p a xs/\Chg (SS p g) w w'/\(a=g∨∃k,a=some k/\w.heap.size<=k)
theorem Strm.lt{w:World}{B p:Nat}{g:Option Nat}{xs:List UInt8}(h:Strm w B p g xs):p<w.heap.size:=by
 obtain⟨_,v,a,_⟩:=h;exact a.lt
theorem Strm.row_lt{w:World}{B p g:Nat}{xs:List UInt8}(h:Strm w B p (some g) xs):g<w.heap.size/\B<=g:=by
 obtain⟨_,v,_,a,h3,_⟩:=h;have:=A8 a g h3;exact⟨this.2,this.1⟩
theorem Strm.belowOf{w w':World}{B p:Nat}{g:Option Nat}{xs:List UInt8}(h:Strm w B p g xs)(b:Chg (SS p g) w w'):Below B w w':=by
 refine b.below (by have:=h.lt;have:=h.1;omega) (fun k _ a=>?_);rcases a with rfl | rfl
 ·exact h.1
 ·exact h.row_lt.2
def Sb(w:World)(p:Nat)(l:List UInt32)(v:Value)(n:Nat):Prop:=SB w p TSm [] l (KK.map uv ++[v,.int .i64 (n:Int)])
theorem a1O:KK.length=64:=rfl
theorem Sb.c72{w:World}{p:Nat}{l:List UInt32}{v:Value}{n:Nat}(h:Sb w p l v n)(a:l.length=8):w.cell? ⟨p,72,none⟩=some v:=by
 unfold Sb SB at h;simp only[World.cell?,h];rw[BB,AJ,AM (by simp[a]),AM (by simp[a,a1O])];simp[a,a1O]
theorem Sb.c73{w:World}{p:Nat}{l:List UInt32}{v:Value}{n:Nat}(h:Sb w p l v n)(a:l.length=8):w.cell? ⟨p,73,none⟩=some (.int .i64 (n:Int)):=by
 unfold Sb SB at h;simp only[World.cell?,h];rw[BB,AJ,AM (by simp[a]),AM (by simp[a,a1O])];simp[a,a1O]
theorem Sb.cK{w:World}{p:Nat}{l:List UInt32}{v:Value}{n:Nat}(h:Sb w p l v n)(a:l.length=8)(i:Nat)(b:i<64):w.cell? ⟨p,8+i,none⟩=some (.int .u32 (wd (KK.getD i 0))):=by
 unfold Sb SB at h;simp only[World.cell?,h];rw[BB,AJ,AM (by simp[a]),A7 (by simp[a,a1O];omega)];rw[AC,a,Cn,Cq,List.getElem?_eq_getElem (by rw[a1O];exact b),List.getD_eq_getElem?_getD,List.getElem?_eq_getElem (by rw[a1O];exact b)];rfl
theorem Sb.s72{w:World}{p:Nat}{l:List UInt32}{v:Value}{n:Nat}(h:Sb w p l v n)(a:l.length=8)(b:Value):Sb (w.setCell ⟨p,72,none⟩ b) p l b n:=by
 unfold Sb SB at *;rw[a0f h];congr 2;rw[Aw,AJ,BA _ _ (by simp[a]),BA _ _ (by simp[a,a1O])];simp[a,a1O]
theorem Sb.s73{w:World}{p:Nat}{l:List UInt32}{v:Value}{n:Nat}(h:Sb w p l v n)(a:l.length=8)(n':Nat):Sb (w.setCell ⟨p,73,none⟩ (.int .i64 (n':Int))) p l v n':=by
 unfold Sb SB at *;rw[a0f h];congr 2;rw[Aw,AJ,BA _ _ (by simp[a]),BA _ _ (by simp[a,a1O])];simp[a,a1O]
theorem S8.list_length(s:S8):s.list.length=8:=rfl
theorem b2R(p:Nat)(s:S8)(v:Value)(n b off a cap:Nat)(xs:List UInt8)(w:World)(h:Sb w p s.list v n)(d:Bs w (some ⟨b,off,none⟩) a cap xs)(c:64<=a):
  Calls Tryz.prog 310 #[.pointer (some ⟨p,0,none⟩),.slice (some ⟨b,off,none⟩) a cap,.pointer (some ⟨p,8,none⟩)] w fun e w'=>e= .returned (.tuple #[])/\Sb w' p (a9J s xs).list v n/\Chg (fun k=>k=p) w w':=
 b0O p TSm [] _ s p 8 b off a cap xs w h (h.cK (S8.list_length s)) d c
theorem a9k(xs a:List UInt8)(h:a1P xs=[])(b:a.length=64):hashed (xs ++a)=a9J (hashed xs) a/\a1P (xs ++a)=[]:=by
 have:=a6w xs a (by rw[h];simpa using b)
 rwa [h,AJ] at this
theorem SPost.mk' {w W:World}{B p:Nat}{g a:Option Nat}{xs:List UInt8}{v:Value}(c:B<=p)(h:Sb W p (hashed xs).list v xs.length)(i:Own W B v (a1P xs))(d:v.ownBlock=a)(f:a≠some p)(e:Chg (SS p g) w W)
  (b:a=g∨∃k,a=some k/\w.heap.size<=k):SPost w B p g xs W:=⟨a,⟨c,v,h,i,d,f⟩,e,b⟩
theorem a16{w:World}{B n size:Nat}{e:TypeId}{v:Value}{xs:List Value}(h:w.ownsRow B e size v n xs)(p:Addr)(u:Value)(a:v.ownBlock≠some p.block):(w.setCell p u).ownsRow B e size v n xs:=
 h.kept (row:=some p.block) ⟨rfl,rfl,rfl,by simp[World.setCell],fun k _ hk=>A5 _ _ _ _ (fun e=>hk (by rw[e]))⟩ (.inr a)
theorem Bs.chg{S:Nat->Prop}{w w':World}{a:Option Addr}{b cap:Nat}{xs:List UInt8}(c:Bs w a b cap xs)(h:Chg S w w')(f:0<b->∀d,a=some d->¬S d.block):Bs w' a b cap xs:=by
 by_cases e:b=0
 ·exact⟨c.1,c.2.1,c.2.2.1,.inl e⟩
 ·exact h.bs c (f (by omega))
theorem Bs.off{w:World}{b off a cap:Nat}{xs:List UInt8}(h:Bs w (some ⟨b,off,none⟩) a cap xs){k:Nat}(hk:k<=a):Bs w (some ⟨b,off+k,none⟩) (a - k) (cap - k) (xs.drop k):=by
 obtain⟨n,o,h3,c⟩:=h;refine⟨by simp;omega,by omega,by omega,?_⟩;rcases c with c | ⟨m,d,c,e,g⟩
 ·exact .inl (by omega)
 ·injection c with c;injection c with j f;subst j f
  exact .inr ⟨b,off+k,rfl,e,fun i l=>by simp at l;rw[Nat.add_assoc,g (k+i) (by omega)];simp⟩
def Mid(w:World)(B p:Nat)(g:Option Nat)(xs ys:List UInt8)(N1 a b cap o k:Nat)(wr:World):Prop:=
 k<=a/\Bs wr (some ⟨b,o,none⟩) (a - k) (cap - k) (ys.drop k)/\a1P (xs ++ys.take k)=[]/\
 ∃v,Sb wr p (hashed (xs ++ys.take k)).list v N1/\Own wr B v []/\v.ownBlock≠some p/\Chg (SS p g) w wr/\(v.ownBlock=g∨∃q,v.ownBlock=some q/\w.heap.size<=q)
theorem Own.cut0{w:World}{B:Nat}{a:Option Addr}{n c:Nat}{xs:List UInt8}(h:Own w B (.slice a n c) xs):Own w B (.slice a 0 c) []:=by
 rcases h.parts with⟨f,_⟩ | ⟨g,cap,f,l,d,h3,i,o,k,m⟩
 ·injection f with e j b;subst e b;exact Own.nil _ _
 ·injection f with e j b;subst e b
  exact Own.of_row (xs:=[]) ⟨d,h3,i,AH _,k,rfl⟩ l
def a7u:Value->Nat
 | .slice _ n _=>n
 | _=>0
theorem Own.step_drew{w:World}{B:Nat}{v:Value}{xs:List UInt8}(h:Own w B v xs):Own w.drew B v xs:=h.below (Ab _ _).drew
theorem Bs.none_left{w:World}{a:Option Addr}{b cap:Nat}{xs:List UInt8}(h:Bs w a b cap xs)(d:Option Addr){k:Nat}(hk:b<=k)(c:k<=cap):Bs w d (b - k) (cap - k) (xs.drop k):=
 ⟨by rw[B9,h.1],by omega,by have:=h.2.2.1;omega,.inl (by omega)⟩
theorem a7U(ys:List UInt8)(k m:Nat):ys.take (k+m)=ys.take k ++(ys.drop k).take m:=by rw[List.take_add]
theorem Mid.turned{w wr w':World}{B p:Nat}{g:Option Nat}{xs ys:List UInt8}{N1 a b cap o' k:Nat}{v:Value}{s:S8}(D:k<=a)(m:64<=a - k)(l:Bs w' (some ⟨b,o',none⟩) (a - k - 64) (cap - k - 64) ((ys.drop k).drop 64))(t:ys.length=a)(x:a1P (xs ++ys.take k)=[])
  (n:Own wr B v []) (c:v.ownBlock≠some p) (y:Chg (SS p g) w wr) (d:v.ownBlock=g∨∃q,v.ownBlock=some q/\w.heap.size<=q)
  (C:s=a9J (hashed (xs ++ys.take k)) ((ys.drop k).take 64)) (o:Sb w' p s.list v N1) (f:Chg (fun q=>q=p) wr w'):Mid w B p g xs ys N1 a b cap o' (k+64) w':=by
 have u:((ys.drop k).take 64).length=64:=by rw[Av,B9];omega
 obtain⟨z,r⟩:=a9k _ _ x u;have j:xs ++ys.take (k+64)=xs ++ys.take k ++(ys.drop k).take 64:=by rw[a7U,List.append_assoc]
 refine⟨by omega,?_,by rw[j];exact r,v,?_,f.own n (fun q A e=>c (by rw[A,e])),c,?_,d⟩
 ·rw[CD] at l;rw[show a - (k+64)=a - k - 64 by omega,show cap - (k+64)=cap - k - 64 by omega];exact l
 ·rw[j,z,<-C];exact o
 ·exact y.trans f (fun i _ h=>.inl h)
theorem a70(B p:Nat)(g:Option Nat)(xs:List UInt8)(b off len cap:Nat)(ys:List UInt8)(w:World)(h:Strm w B p g xs)(hy:Bs w (some ⟨b,off,none⟩) len cap ys)(a4:¬SS p g b)(hl:xs.length+len<=1000000000):
  Calls Tryz.prog 274 #[.pointer (some ⟨p,0,none⟩),.slice (some ⟨b,off,none⟩) len cap] w fun e w'=>e= .returned (.tuple #[])/\SPost w B p g (xs ++ys) w':=by
 obtain⟨aj,v,M,hO,C,a0⟩:=h;have M:Sb w p (hashed xs).list v xs.length:=M;obtain⟨r,hr⟩:=qnm ((a1P xs).length);obtain⟨X,V,rfl,au⟩:=hO.bsn hr.symm;have aN:=hy.2.1;have aC:=hy.2.2.1;unfold maxLen at aC;obtain⟨n0,a9⟩:=qnm xs.length;rw[<-a9] at M hl;obtain⟨N1,ab⟩:=qnm (n0+len);have aK:r<64:=by rw[hr,a13];omega
 have E:=M.s73 (S8.list_length _) N1;have ar:=M.c73 (S8.list_length _);have aB:=SB.frozen M 73;have hp:=SB.lt M;have A:=(Chg.refl (SS p g) w).setCell (p:=⟨p,73,none⟩) (fun _=>.inl rfl) (.int .i64 (N1:Int));have ag:Chg (fun k=>k=p) w (w.setCell ⟨p,73,none⟩ (.int .i64 (N1:Int))):=Chg.setCell (S:=fun k=>k=p) (p:=⟨p,73,none⟩) (Chg.refl _ w) (fun _=>rfl) _;have R:=ag.own hO (fun k hk e=>a0 (by rw[<-C,hk,e]));have x:=ag.bs hy (fun ad G e=>by cases G;exact a4 (.inl e));have HR:=qh (aI hr (aI a9 ab));have hw:(n0:Int)+(len:Int)=(N1:Int):=by omega
 have t:=qh C;have aG:=qh (show N1=xs.length+len from by rw[ab,a9]);clear hr a9 ab hO au hy ag M C;go_enter Tryz.func274,Tryz.ntmps274;go_upto_region 1 with fail
 clear ar aB hw;generalize w.setCell ⟨p,73,none⟩ (.int .i64 (N1:Int))=w1 at *;have y:=E.c72 (S8.list_length _);have z:=SB.frozen E 72;go_upto_if 19 with fail
 go_cut [1] (fun s1 wr=>∃o k,s1= .slice (some ⟨b,o,none⟩) (len - k) (cap - k)/\Mid w B p g xs ys N1 len b cap o k wr);case first=>
  by_cases aP:0<r
  ·by_cases F:r+len<64
   ·have hm:min len (64 - r)=len:=by omega
    go_upto_region 3 with fail
    have N:(a1P xs).length=r:=HR.out.1.symm;have hL:(a1P xs).length+len<=140737488355328:=by rw[N];omega
    have I:B<=w1.heap.size:=by have:=A.size;omega
    have a:p<w1.heap.size:=SB.lt E;have H:some p≠(Value.slice X r V).ownBlock:=fun e=>a0 (by rw[<-t.out,<-e])
    have q1:(0:Int)<=(len:Int):=by omega
    have q2:(len:Int)<=(cap:Int):=by omega
    have a6:Hid ((a1P xs ++ys).length=r+len):=qh (by rw[Af,N,x.1]);have L:Hid (∀w2,w1.drew.grownBy w2 (Value.slice X r V).ownBlock->w2.cell? ⟨p,72,none⟩=some (.slice X r V)/\w2.frozen? ⟨p,72,none⟩=false):=
     qh fun w2 l=>⟨(World.grownBy.cell_far l ⟨p,72,none⟩ a H).trans y,(World.grownBy.frozen_far l ⟨p,72,none⟩ a H).trans z⟩
    clear hm;go_upto_region 3 with fail
    go_region_law (have ac:=R.below (Ab _ _).drew;have ah:=x.below (Ab _ _).drew;refine a2l rfl (.tmp 33) (.tmp 36) rfl B _ (a1P xs) ?_ ac _ len _ ys ?_ ah hL I (fun v' w2 U l h3=>?_);(rfl);(rfl);obtain⟨k1,k2⟩:=L.out w2 l;obtain⟨m,f,rfl,hb2⟩:=Own.bsn U a6.out);have J:Sb w2 p (hashed xs).list (.slice X r V) N1:=(l.block p a H).trans E;have j:=J.s72 (S8.list_length _) (.slice m (r+len) f);have K:Chg (SS p g) w w2:=A.trans (S':=fun q=>g=some q) ((Chg.refl _ w1).drew.grown l (fun q _ hq=>by rw[<-t.out];exact hq)) (fun i _ h=>.inr h);have P:=K.setCell (p:=⟨p,72,none⟩) (fun _=>.inl rfl) (.slice m (r+len) f);have d:(Value.slice m (r+len) f).ownBlock≠some p:=by
     rcases h3 with h3 | h3
     ·rw[h3,t.out];exact a0
     ·rw[h3];intro e;injection e with e;rw[<-e] at a;exact Ch _ a
    have u:Own (w2.setCell ⟨p,72,none⟩ (.slice m (r+len) f)) B (.slice m (r+len) f) (a1P xs ++ys):=a16 U _ _ d;have Y:Hid ((Value.slice m (r+len) f).ownBlock=g∨∃q,(Value.slice m (r+len) f).ownBlock=some q/\w.heap.size<=q):=by
     refine qh ?_;rcases h3 with h3 | h3
     ·exact .inl (h3.trans t.out)
     ·exact .inr ⟨_,h3,A.size⟩
    have HP:Hid (hashed (xs ++ys)=hashed xs/\a1P (xs ++ys)=a1P xs ++ys):=qh (a7A xs ys (by rw[N,x.1];exact F));have HN:Hid (N1=(xs ++ys).length):=qh (by rw[Af,x.1,HR.out.2.2,HR.out.2.1]);clear U l h3 k1 k2 hb2 E J A K R x N hL I a H y z;have y:=j.c72 (S8.list_length _);have aA:=qh j;rw[HN.out,<-HP.out.1] at j;rw[<-HP.out.2] at u;have hP:=SPost.mk' aj j u rfl d P Y.out;clear j;have j:=aA.out;go_wp2_with fail;all_goals
     refine Aj (v:=.tuple #[]) (by simp[results,Tryz.results274,go_sem]) rfl ⟨rfl,hP⟩
   ·obtain⟨D,hD⟩:=qnm (64 - r);have ai:D<=len:=by omega
    have aO:64 - (r:Int)=(D:Int):=by omega
    have aM:(if D<len then(D:Int) else(len:Int))=(D:Int):=by split <;>omega
    have N:(a1P xs).length=r:=HR.out.1.symm;have hL:(a1P xs).length+D<=140737488355328:=by rw[N];omega
    have I:B<=w1.heap.size:=by have:=A.size;omega
    have a:p<w1.heap.size:=SB.lt E;have H:some p≠(Value.slice X r V).ownBlock:=fun e=>a0 (by rw[<-t.out,<-e])
    have q1:(0:Int)<=(D:Int):=by omega
    have q2:(D:Int)<=(cap:Int):=by omega
    have q3:(D:Int)<=(len:Int):=by omega
    have ae:=x.take ai;have a6:Hid ((a1P xs ++ys.take D).length=64):=qh (by rw[Af,N,ae.1];omega);have L:Hid (∀w2,w1.drew.grownBy w2 (Value.slice X r V).ownBlock->w2.cell? ⟨p,72,none⟩=some (.slice X r V)/\w2.frozen? ⟨p,72,none⟩=false):=
     qh fun w2 l=>⟨(World.grownBy.cell_far l ⟨p,72,none⟩ a H).trans y,(World.grownBy.frozen_far l ⟨p,72,none⟩ a H).trans z⟩
    have HD:=qh hD;clear hD;go_upto_region 3 with fail
    go_region_law (have ac:=R.below (Ab _ _).drew;have ah:=ae.below (Ab _ _).drew;refine a2l rfl (.tmp 33) (.tmp 36) rfl B _ (a1P xs) ?_ ac _ D _ (ys.take D) ?_ ah hL I (fun v' w2 U l h3=>?_);(rfl);(rfl);obtain⟨k1,k2⟩:=L.out w2 l;obtain⟨m,f,rfl,hb2⟩:=Own.bsn U a6.out);have J:Sb w2 p (hashed xs).list (.slice X r V) N1:=(l.block p a H).trans E;have j:=J.s72 (S8.list_length _) (.slice m 64 f);have ap:Bs w2 (some ⟨b,off,none⟩) len cap ys:=by
     refine((Chg.refl (fun q=>g=some q) w1).drew.grown l (fun q _ hq=>by rw[<-t.out];exact hq)).bs x (fun ad G e=>by cases G;exact a4 (.inr e))
    have K:Chg (SS p g) w w2:=A.trans (S':=fun q=>g=some q) ((Chg.refl _ w1).drew.grown l (fun q _ hq=>by rw[<-t.out];exact hq)) (fun i _ h=>.inr h);have P:=K.setCell (p:=⟨p,72,none⟩) (fun _=>.inl rfl) (.slice m 64 f);have d:(Value.slice m 64 f).ownBlock≠some p:=by
     rcases h3 with h3 | h3
     ·rw[h3,t.out];exact a0
     ·rw[h3];intro e;injection e with e;rw[<-e] at a;exact Ch _ a
    have u:Own (w2.setCell ⟨p,72,none⟩ (.slice m 64 f)) B (.slice m 64 f) (a1P xs ++ys.take D):=a16 U _ _ d;have af:Bs (w2.setCell ⟨p,72,none⟩ (.slice m 64 f)) (some ⟨b,off,none⟩) len cap ys:=(Chg.setCell (S:=fun q=>q=p) (p:=⟨p,72,none⟩) (Chg.refl _ w2) (fun _=>rfl) _).bs ap (fun ad G e=>by cases G;exact a4 (.inl e));have Y:Hid ((Value.slice m 64 f).ownBlock=g∨∃q,(Value.slice m 64 f).ownBlock=some q/\w.heap.size<=q):=by
     refine qh ?_;rcases h3 with h3 | h3
     ·exact .inl (h3.trans t.out)
     ·exact .inr ⟨_,h3,A.size⟩
    have HP:Hid (hashed (xs ++ys.take D)=a9J (hashed xs) (a1P xs ++ys.take D)/\a1P (xs ++ys.take D)=[]):=qh (a6w xs (ys.take D) (by rw[<-Af];exact a6.out));clear U l h3 k1 k2 hb2 E J A K R x N hL I a H y z ap ae;have y:=j.c72 (S8.list_length _);have z:=SB.frozen j 72;go_upto_region 4 with fail
    generalize w2.setCell ⟨p,72,none⟩ (.slice m 64 f)=w3 at *;obtain⟨gr,aJ⟩:∃gr,m=some ⟨gr,0,none⟩:=by
     rcases u.parts with⟨e,_⟩ | ⟨gr,c,e,_⟩
     ·injection e with e1 e2 e3;cases e2
     ·injection e with e1;exact⟨gr,e1⟩
    subst aJ;obtain⟨ax,cx,aw,am⟩:=u.bsn a6.out;injection aw with e1 e2 e3
    subst e1 e3;obtain⟨o,az,a3⟩:∃o,(if cap=D then(some ⟨b,off,none⟩:Option Addr) else some ⟨b,off+D,none⟩)=some ⟨b,o,none⟩/\∀W,Chg (fun q=>q=p) w3 W->Bs W (some ⟨b,o,none⟩) (len - D) (cap - D) (ys.drop D):=by
     by_cases a1:cap=D
     ·exact⟨off,by rw[Ah a1],fun W hC=>(af.none_left _ (by omega) (by omega)).chg hC (fun h=>by omega)⟩
     ·exact⟨off+D,by rw[Ag a1],fun W hC=>(af.off ai).chg hC (fun _ ad G e=>by cases G;exact a4 (.inl e))⟩
    have a7:=qh a3;clear a3;go_upto_region 6 with fail
    refine a0K 10 (by kernel_rfl) (by kernel_rfl) rfl ?_;simp only[qtc,a3E];repeat still_step
    refine AK ?_;go_wp2_with fail;refine(b2R p (hashed xs) _ N1 gr 0 64 f _ _ j.drew am.drew (Aa _)).mono ?_;rintro e w4 ⟨rfl,Q,Z⟩;have y:=Q.c72 (S8.list_length _);have z:=SB.frozen Q 72;have ak:=Z.own u.step_drew (fun q hq e=>d (by rw[hq,e]));have ao:=Q.s72 (S8.list_length _) (.slice (some ⟨gr,0,none⟩) 0 f);have T:Chg (fun q=>q=p) w3 (w4.setCell ⟨p,72,none⟩ (.slice (some ⟨gr,0,none⟩) 0 f)):=((Chg.refl _ w3).drew.trans Z (fun _ _ h=>h)).setCell (fun _=>rfl) _;have ay:Own (w4.setCell ⟨p,72,none⟩ (.slice (some ⟨gr,0,none⟩) 0 f)) B (.slice (some ⟨gr,0,none⟩) 0 f) []:=a16 ak.cut0 _ _ d;have aH:=a7.out _ T;have aE:=P.trans T (fun i _ h=>.inl h);clear j u af P am Q Z ak T;go_wp2_with fail;go_meet;rw[<-HP.out.1] at ao;exact⟨o,D,rfl,ai,aH,HP.out.2,_,ao,ay,d,aE,Y.out⟩
  ·go_wp2_with fail;go_meet;have aa:a1P xs=[]:=Bw (by rw[<-HR.out.1];omega);rw[aa] at R;refine⟨off,0,rfl,by omega,?_,?_,_,?_,R,?_,A,.inl t.out⟩
   ·simpa using x
   ·rw[BN,By];exact aa
   ·rw[BN,By];exact E
   ·rw[t.out];exact a0
 case rest=>
  obtain⟨o,k,rfl,hM⟩:=hcut;have an:ys.length=len:=x.1;have al:=qh an;clear E A R x y z HR t an;go_upto_block 0 with fail
  go_cut [1] (fun s1 wr=>∃o k,s1= .slice (some ⟨b,o,none⟩) (len - k) (cap - k)/\Mid w B p g xs ys N1 len b cap o k wr/\len - k<64);case first=>
   go_wp2_with fail;go_loopw [1] (fun s1 wr=>∃o k,s1= .slice (some ⟨b,o,none⟩) (len - k) (cap - k)/\Mid w B p g xs ys N1 len b cap o k wr) (fun s1 _=>a7u s1);case atStart=>exact ⟨o,k,rfl,hM⟩
   case round=>
    obtain⟨o,k,rfl,hM⟩:=hrel;by_cases a8:64<=len - k
    ·obtain⟨hk,hB,hh,v,M,ho,O,hc,C⟩:=hM;have c1:(64:Int)<=((len - k:Nat):Int):=by omega
     have f:(64:Int)<=((cap - k:Nat):Int):=by omega
     have aq:=hB.take (k:=64) a8;obtain⟨o2,az,a3⟩:∃o2,(if cap - k=64 then(some ⟨b,o,none⟩:Option Addr) else some ⟨b,o+64,none⟩)=some ⟨b,o2,none⟩/\∀W,Chg (fun q=>q=p) wr W->Bs W (some ⟨b,o2,none⟩) (len - k - 64) (cap - k - 64) ((ys.drop k).drop 64):=by
      by_cases a1:cap - k=64
      ·exact⟨o,by rw[Ah a1],fun W hC=>(hB.none_left _ (by omega) (by omega)).chg hC (fun h=>by omega)⟩
      ·exact⟨o+64,by rw[Ag a1],fun W hC=>(hB.off a8).chg hC (fun _ ad G e=>by cases G;exact a4 (.inl e))⟩
     have a7:=qh a3;have HT:=qh (fun W hb=>b2R p (hashed (xs ++ys.take k)) v N1 b o 64 (cap - k) ((ys.drop k).take 64) W (SB.below M hb) (aq.below hb) (Aa _));have HM:=qh (fun(o':Nat) (w':World) U l h3=>Mid.turned (N1:=N1) (b:=b) (cap:=cap) (o':=o') (w':=w') (s:=a9J (hashed (xs ++ys.take k)) ((ys.drop k).take 64)) hk a8 U al.out hh ho O hc C rfl l h3);clear a3 hB aq hh M ho O hc C;go_upto_region 9 with fail
     refine a0K 8 (by kernel_rfl) (by kernel_rfl) rfl ?_;simp only[qtc,a3E];repeat still_step
     refine AK ?_;go_wp2_with fail;refine(HT.out _ (Ab _ _).drew).mono ?_;rintro e w4 ⟨rfl,Q,Z⟩;have T:=(Chg.refl (fun q=>q=p) wr).drew.trans Z (fun _ _ h=>h);have aD:=HM.out o2 w4 (a7.out _ T) Q T;clear Q Z T HM HT a7;go_wp2_with fail;go_roundw;case rel=>exact ⟨o2,k+64,by rw[show len - (k+64)=len - k - 64 by omega,show cap - (k+64)=cap - k - 64 by omega],aD⟩
     case measure=>simp [a7u];omega
    ·have aL:((len - k:Nat):Int)<64:=by omega
     go_wp2_with fail;go_meet;exact⟨o,k,rfl,hM,by omega⟩
  case rest=>
   obtain⟨o,k,rfl,⟨hk,hB,hh,v,M,ho,O,hc,C⟩,a8⟩:=hcut;obtain⟨X,V,rfl,_⟩:=ho.bsn (n:=0) rfl;have y:=M.c72 (S8.list_length _);have z:=SB.frozen M 72;have a5:p<wc.heap.size:=SB.lt M;have aF:B<=wc.heap.size:=by omega
   have L:Hid (∀w2,wc.grownBy w2 (Value.slice X 0 V).ownBlock->w2.cell? ⟨p,72,none⟩=some (.slice X 0 V)/\w2.frozen? ⟨p,72,none⟩=false):=
    qh fun w2 l=>⟨(World.grownBy.cell_far l ⟨p,72,none⟩ a5 (Ne.symm O)).trans y,(World.grownBy.frozen_far l ⟨p,72,none⟩ a5 (Ne.symm O)).trans z⟩
   clear hM;go_wp2_with (at_builtin;refine a1x rfl _ _ rfl B _ [] rfl ho (some ⟨b,o,none⟩) (len - k) (cap - k) (ys.drop k) rfl hB (by simp;omega) aF ?_);intro v' w2 U l h3;obtain⟨k1,k2⟩:=L.out w2 l;obtain⟨m,f,rfl,_⟩:=U.bsn (n:=len - k) hB.1;have J:Sb w2 p (hashed (xs ++ys.take k)).list (.slice X 0 V) N1:=(l.block p a5 (Ne.symm O)).trans M;have j:=J.s72 (S8.list_length _) (.slice m (len - k) f);have K:Chg (SS p g) w w2:=by
    refine hc.trans (S':=fun q=>(Value.slice X 0 V).ownBlock=some q) ((Chg.refl _ wc).grown l (fun q _ hq=>hq)) (fun i hi h=>?_);rcases C with e | ⟨q,e,hq⟩
    ·exact .inr (e ▸ h)
    ·rw[e] at h;injection h with h;omega
   have P:=K.setCell (p:=⟨p,72,none⟩) (fun _=>.inl rfl) (.slice m (len - k) f);have d:(Value.slice m (len - k) f).ownBlock≠some p:=by
    rcases h3 with h3 | h3
    ·rw[h3];exact O
    ·rw[h3];intro e;injection e with e;rw[<-e] at a5;exact Ch _ a5
   have u:Own (w2.setCell ⟨p,72,none⟩ (.slice m (len - k) f)) B (.slice m (len - k) f) (ys.drop k):=a16 U _ _ d;have Y:(Value.slice m (len - k) f).ownBlock=g∨∃q,(Value.slice m (len - k) f).ownBlock=some q/\w.heap.size<=q:=by
    rcases h3 with h3 | h3
    ·rw[h3];exact C
    ·exact .inr ⟨_,h3,hc.size⟩
   have F:=a7A (xs ++ys.take k) (ys.drop k) (by rw[hh,Ay,hB.1];omega);have e4:xs ++ys.take k ++ys.drop k=xs ++ys:=by rw[List.append_assoc,List.take_append_drop]
   rw[e4,hh,AJ] at F;have hN:N1=(xs ++ys).length:=by rw[Af,al.out];exact aG.out
   rw[hN,<-F.1] at j;rw[<-F.2] at u;have HP:=qh (SPost.mk' aj j u rfl d P Y);clear M J j K P u Y F e4 hN U l h3 hB hh ho O hc C d y z;go_wp2_with fail;go_end0;exact⟨rfl,HP.out⟩
theorem a6T(B p:Nat)(g:Option Nat)(xs:List UInt8)(a:Option Addr)(cap:Nat)(w:World)(h:Strm w B p g xs)(hc:cap<=maxLen)(hl:xs.length<=1000000000):
  Calls Tryz.prog 274 #[.pointer (some ⟨p,0,none⟩),.slice a 0 cap] w fun e w'=>e= .returned (.tuple #[])/\SPost w B p g xs w':=by
 obtain⟨U,v,N,hO,Q,x⟩:=h;have N:Sb w p (hashed xs).list v xs.length:=N;obtain⟨r,W⟩:=qnm ((a1P xs).length);obtain⟨M,L,rfl,X⟩:=hO.bsn W.symm;obtain⟨n0,O⟩:=qnm xs.length;rw[<-O] at N hl;have a6:r<64:=by rw[W,a13];omega
 have l:=N.s73 (S8.list_length _) n0;have a4:=N.c73 (S8.list_length _);have a1:=SB.frozen N 73;have hp:=SB.lt N;have t:=(Chg.refl (SS p g) w).setCell (p:=⟨p,73,none⟩) (fun _=>.inl rfl) (.int .i64 (n0:Int));have R:Chg (fun k=>k=p) w (w.setCell ⟨p,73,none⟩ (.int .i64 (n0:Int))):=Chg.setCell (S:=fun k=>k=p) (p:=⟨p,73,none⟩) (Chg.refl _ w) (fun _=>rfl) _;have I:=R.own hO (fun k hk e=>x (by rw[<-Q,hk,e]));have T:=qh (aI W O);have j:=qh Q;clear W O hO X R N Q;unfold maxLen at hc;go_enter Tryz.func274,Tryz.ntmps274;go_upto_region 1 with fail
 clear a4 a1;generalize w.setCell ⟨p,73,none⟩ (.int .i64 (n0:Int))=w1 at *;have E:=l.c72 (S8.list_length _);have J:=SB.frozen l 72;by_cases a8:0<r
 ·have V:min 0 (64 - r)=0:=by omega
  have a7:(0:Int)<64 - (r:Int):=by omega
  have P:(a1P xs).length=r:=T.out.1.symm;have D:Bs w1.drew a 0 cap []:=⟨rfl,AH _,by unfold maxLen;exact hc,.inl rfl⟩
  have hL:(a1P xs).length+0<=140737488355328:=by rw[P];omega
  have c:p<w1.heap.size:=SB.lt l;have K:B<=w1.heap.size:=by omega
  have f:some p≠(Value.slice M r L).ownBlock:=fun e=>x (by rw[<-j.out,<-e])
  have a5:Hid ((a1P xs ++[]).length=r):=qh (by rw[By,P]);have F:Hid (∀w2,w1.drew.grownBy w2 (Value.slice M r L).ownBlock->w2.cell? ⟨p,72,none⟩=some (.slice M r L)/\w2.frozen? ⟨p,72,none⟩=false):=
   qh fun w2 o=>⟨(World.grownBy.cell_far o ⟨p,72,none⟩ c f).trans E,(World.grownBy.frozen_far o ⟨p,72,none⟩ c f).trans J⟩
  clear V;go_upto_region 3 with fail
  go_region_law (have a0:=I.below (Ab _ _).drew;refine a2l rfl (.tmp 33) (.tmp 36) rfl B _ (a1P xs) ?_ a0 _ 0 _ [] ?_ D hL K (fun v' w2 H o h3=>?_);(rfl);(rfl);obtain⟨k1,k2⟩:=F.out w2 o;obtain⟨m,s,rfl,hb2⟩:=Own.bsn H a5.out);rw[By] at H;have A:Sb w2 p (hashed xs).list (.slice M r L) n0:=(o.block p c f).trans l;have b:=A.s72 (S8.list_length _) (.slice m r s);have u:Chg (SS p g) w w2:=t.trans (S':=fun q=>g=some q) ((Chg.refl _ w1).drew.grown o (fun q _ hq=>by rw[<-j.out];exact hq)) (fun i _ h=>.inr h);have y:=u.setCell (p:=⟨p,72,none⟩) (fun _=>.inl rfl) (.slice m r s);have d:(Value.slice m r s).ownBlock≠some p:=by
   rcases h3 with h3 | h3
   ·rw[h3,j.out];exact x
   ·rw[h3];intro e;injection e with e;rw[<-e] at c;exact Ch _ c
  have z:Own (w2.setCell ⟨p,72,none⟩ (.slice m r s)) B (.slice m r s) (a1P xs):=a16 H _ _ d;have C:(Value.slice m r s).ownBlock=g∨∃q,(Value.slice m r s).ownBlock=some q/\w.heap.size<=q:=by
   rcases h3 with h3 | h3
   ·exact .inl (h3.trans j.out)
   ·exact .inr ⟨_,h3,t.size⟩
  have a3:=qh b;rw[T.out.2] at b;have Y:=qh (SPost.mk' U b z rfl d y C);clear b;have b:=a3.out;clear H o h3 k1 k2 hb2 l A t u I P hL K c f E J z C y D;have E:=b.c72 (S8.list_length _);go_wp2_with fail;all_goals refine Aj (v:=.tuple #[]) (by simp[results,Tryz.results274,go_sem]) rfl ⟨rfl,Y.out⟩
 ·obtain rfl:r=0:=by omega
  go_wp2_with fail;go_loopw [1] (fun s1 wr=>s1= .slice a 0 cap/\w1=wr) (fun _ _=>0);case atStart=>exact ⟨rfl,rfl⟩
  case round=>
   obtain⟨rfl,rfl⟩:=hrel;have G:p<w1.heap.size:=SB.lt l;have Z:B<=w1.heap.size:=by omega
   have D:Bs w1 a 0 cap []:=⟨rfl,AH _,by unfold maxLen;exact hc,.inl rfl⟩
   have f:some p≠(Value.slice M 0 L).ownBlock:=fun e=>x (by rw[<-j.out,<-e])
   have F:Hid (∀w2,w1.grownBy w2 (Value.slice M 0 L).ownBlock->w2.cell? ⟨p,72,none⟩=some (.slice M 0 L)/\w2.frozen? ⟨p,72,none⟩=false):=
    qh fun w2 o=>⟨(World.grownBy.cell_far o ⟨p,72,none⟩ G f).trans E,(World.grownBy.frozen_far o ⟨p,72,none⟩ G f).trans J⟩
   go_wp2_with (at_builtin;refine a1x rfl _ _ rfl B _ (a1P xs) rfl I a 0 cap [] rfl D ?hln Z ?hk);case hln=>rw [<-T.out.1];omega
   intro v' w2 H o h3;obtain⟨k1,k2⟩:=F.out w2 o;have H:Own w2 B v' (a1P xs):=by simpa using H
   obtain⟨m,s,rfl,_⟩:=H.bsn (n:=0) T.out.1.symm;have A:Sb w2 p (hashed xs).list (.slice M 0 L) n0:=(o.block p G f).trans l;have b:=A.s72 (S8.list_length _) (.slice m 0 s);have u:Chg (SS p g) w w2:=t.trans (S':=fun q=>g=some q) ((Chg.refl _ w1).grown o (fun q _ hq=>by rw[<-j.out];exact hq)) (fun i _ h=>.inr h);have y:=u.setCell (p:=⟨p,72,none⟩) (fun _=>.inl rfl) (.slice m 0 s);have d:(Value.slice m 0 s).ownBlock≠some p:=by
    rcases h3 with h3 | h3
    ·rw[h3,j.out];exact x
    ·rw[h3];intro e;injection e with e;rw[<-e] at G;exact Ch _ G
   have z:Own (w2.setCell ⟨p,72,none⟩ (.slice m 0 s)) B (.slice m 0 s) (a1P xs):=a16 H _ _ d;have C:(Value.slice m 0 s).ownBlock=g∨∃q,(Value.slice m 0 s).ownBlock=some q/\w.heap.size<=q:=by
    rcases h3 with h3 | h3
    ·exact .inl (h3.trans j.out)
    ·exact .inr ⟨_,h3,t.size⟩
   rw[T.out.2] at b;have Y:=qh (SPost.mk' U b z rfl d y C);clear l A b t u y I z C H o h3 d E J D f;go_wp2_with fail;go_end0;exact⟨rfl,Y.out⟩
theorem a8M(B p:Nat)(g:Option Nat)(xs:List UInt8)(a:Option Addr)(c cap:Nat)(ys:List UInt8)(w:World)(h:Strm w B p g xs)(d:Bs w a c cap ys)(f:0<c->∀i,a=some i->¬SS p g i.block)(k:xs.length+c<=1000000000):
  Calls Tryz.prog 274 #[.pointer (some ⟨p,0,none⟩),.slice a c cap] w fun e w'=>e= .returned (.tuple #[])/\SPost w B p g (xs ++ys) w':=by
 by_cases j:c=0
 ·subst j;obtain rfl:=Ax.1 d.1;rw[By];exact a6T B p g xs a cap w h d.2.2.1 (by omega)
 ·rcases d.2.2.2 with l | ⟨b,off,rfl,_,_⟩
  ·exact absurd l j
  ·exact a70 B p g xs b off c cap ys w h d (f (by omega) _ rfl) k
end
end Go.Proofs.YtbemfdcjieakdaaGreatDoor
