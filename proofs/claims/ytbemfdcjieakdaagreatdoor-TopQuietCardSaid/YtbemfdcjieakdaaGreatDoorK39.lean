/- TreeDrop; Commit2; OvC. -/
import Derived.Laws.IdiomRangeMap
import Derived.Test.YtbemfdcjieakdaaGreatDoorK21
import Derived.Test.YtbemfdcjieakdaaGreatDoorK27
import Derived.Test.YtbemfdcjieakdaaGreatDoorK30
set_option maxRecDepth 100000
set_option maxHeartbeats 8000000
namespace Go.Proofs.YtbemfdcjieakdaaGreatDoor
section
open Go.RowKit Go.ChangeMaps Go.MapKept Go.Maps
theorem b4l(s:ByteArray)(k i:Int)(q:Nat)(w:World)(a:w.cell? ⟨q,0,none⟩=some (.int .i64 i)):
  Calls Tryz.prog 224 #[.string s,.int .i64 k,.pointer (some ⟨q,0,none⟩)] w fun e w'=>e= .returned (.bool (k == i))/\w=w':=by
 go_enter Tryz.func224,Tryz.ntmps224;go_wp2_with fail;go_ret;exact⟨rfl,rfl⟩
def fk(i:Nat)(left:Lit->Bool)(l:List (List UInt8×Nat)):List (List UInt8×Nat):=l.filter fun p=> !decide (p.2=i) || left (a0L.lit p.1)
theorem b4e{i:Nat}{left:Lit->Bool}{l:List (List UInt8×Nat)}(b:l.Pairwise (fun p q=>p.1≠q.1)){s:List UInt8}{k:Nat}(h:getK s (fk i left l)=some k){p:List UInt8×Nat}(f:p∈l)(e:p.1=s):p.2=k:=by
 have c:=a2i h;have d:=(Ck.1 c).1;have h3:=a0s b (k:=s) (v:=k) d;have a:=a0s b (k:=p.1) (v:=p.2) f;rw[e,h3] at a;injection a with a
 exact a.symm
theorem b7O{i:Nat}{left:Lit->Bool}{l:List (List UInt8×Nat)}(c:l.Pairwise (fun p q=>p.1≠q.1)){s:List UInt8}{k:Nat}(h:getK s (fk i left l)=some k)(hk:k≠i):fk i (fun z=>left z && !z.sameKey (a0L.lit s)) l=fk i left l:=by
 unfold fk;refine List.filter_congr (fun p b=>?_);by_cases e:p.1=s
 ·have:=b4e c h b e;have a:¬p.2=i:=by omega
  simp[a]
 ·simp[a1q,e]
theorem b8M{i:Nat}{left:Lit->Bool}{l:List (List UInt8×Nat)}(c:l.Pairwise (fun p q=>p.1≠q.1)){s:List UInt8}{k:Nat}(h:getK s (fk i left l)=some k)(hk:k=i):a1K s (fk i left l)=fk i (fun z=>left z && !z.sameKey (a0L.lit s)) l:=by
 unfold fk a1K;rw[List.filter_filter];refine List.filter_congr (fun p b=>?_);by_cases e:p.1=s
 ·have:=b4e c h b e;have a:p.2=i:=by omega
  simp[a,e,a1q]
 ·simp[a1q,e]
theorem b8L{i:Nat}{left:Lit->Bool}{l:List (List UInt8×Nat)}(h:∀z,left z=false):fk i left l=l.filter fun p=> !decide (p.2=i):=by
 unfold fk;exact List.filter_congr (fun p _=>by simp[h])
theorem b6j{i:Nat}{left:Lit->Bool}{l:List (List UInt8×Nat)}(h:∀p∈l,left (a0L.lit p.1)=true):fk i left l=l:=by
 unfold fk;exact Ce.2 (fun p a=>by simp[h p a])
theorem b51(w:World)(b q i:Nat)(l:List (List UInt8×Nat))(hM:MapAt a0L Tryz.prog a3c w b (vals a3v l))(c0:w.cell? ⟨q,0,none⟩=some (.int .i64 (i:Int)))(hq:q<w.heap.size)(R:q≠b):
  Calls Tryz.prog 223 #[.map (some b),.func (.func 224) #[] #[.pointer (some ⟨q,0,none⟩)]] w fun e w'=>e= .returned (.tuple #[])/\MapAt a0L Tryz.prog a3c w' b (vals a3v (l.filter fun p=> !decide (p.2=i)))/\w.grownBy w' (some b):=by
 have U:l.Pairwise (fun p q=>p.1≠q.1):=hM.srising.imp (fun {a b} T e=>by rw[e] at T;have:=a1L _ _ T;exact absurd this (B3 _));obtain⟨n,hn⟩:=qnm ((vals a3v l).length);have HM:=qh (aI hM hn);have M:=qh (aI c0 (aI hq (aI R U)));clear hM hn c0 hq R U;go_enter Tryz.func223,Tryz.ntmps223;go_wp2_with (first
  | (at_range;refine wpList_range_own _ rfl _ 231 rfl a3c _ a3f a1y RH b n _ rfl (by rw[HM.out.2];exact HM.out.1) ?_;intro wa t A H)
  | fail)
 obtain⟨Z,B⟩:=qnm w.heap.size;rw[<-B] at t⊢;have O:=qh (aI B (aI A H));have F:=qh t;clear B A H t;go_frame;go_loopw [4,5] (fun _ _ wx=>∃(left:Lit->Bool) (N:Nat),wx.ranges Tryz.prog a3c RH b Z n (a3o a0L (vals a3v (fk i left l))) left N/\w.grownBy wx (some b))
  (fun _ _ wx=>wx.rangeLeft b Z)
 case atStart=>
  obtain⟨B,A,H⟩:=O.out;refine⟨Maps.has (a3o a0L (vals a3v l)),Maps.size (a3o a0L (vals a3v l)),?_,A.but _⟩;rw[b6j]
  ·exact F.out
  ·intro p hp;rw[a38,a1c,a0s M.out.2.2.2 (k:=p.1) (v:=p.2) hp];rfl
 case round=>
  obtain⟨left,N,f,u⟩:=hrel;clear F;go_wp2_with (first
   | (at_next;refine wpList_next_ranges _ rfl _ rfl a3c a3f RH Value.string (fun v=>v) (fun a1 kl hk=>by obtain⟨x,rfl,_⟩:=a2E hk;exact⟨x,rfl⟩) (fun v _ _=>⟨v,rfl⟩) b Z n _ _ _ rfl f ?_ ?_)
   | fail)
  ·intro _ V;have HF:=qh (show MapAt a0L Tryz.prog a3c wr b (vals a3v (l.filter fun p=> !decide (p.2=i)))/\w.grownBy wr (some b) from⟨by rw[<-b8L V];exact MapAt.of a0L f.owns,u⟩);clear f u V;go_wp2_with fail;go_end0;exact⟨rfl,HF.out.1,HF.out.2⟩
  ·intro xk cv kl y ps w1 P m S I K g h L Q a0;obtain⟨s,rfl,rfl,D⟩:=a6E (y:=(y,ps)) m I K;rw[a1c] at D;obtain⟨Y,E,rfl⟩:=AU.1 D;have d:=u.andThen L (fun j hj=>by cases hj;exact Or.inl (by have:=O.out.1;omega));have G:w1.cell? ⟨q,0,none⟩=some (.int .i64 (i:Int)):=(Cc (a:=⟨q,0,none⟩) (d.block q M.out.2.1 (fun e=>M.out.2.2.1 (by injection e)))).trans M.out.1;have C:=qh (b4l (a0c s) (Y:Int) (i:Int) q w1 G);have z:keyOf Tryz.prog a3c (.string (a0c s))=some (a0L.lit s):=m;unfold a3v at a0⊢;by_cases o:Y=i
   ·have X:((Y:Int) == (i:Int))=true:=by simp[o]
    rw[X] at C;have HD:=qh (b8M M.out.2.2.2 E o);have c:=qh (aI f (aI g (aI d h)));clear f L Q K I D m S u d G h E o X;go_wp2_with fail;refine C.out.mono ?_;rintro e w2 ⟨rfl,rfl⟩;go_wp2_with (first
     | (at_delete;refine wpList_delete_ranges _ rfl _ _ 231 a3c rfl TI64 a3f a1y RH b Z n _ _ _ rfl g _ _ rfl z ?_;intro w3 W r a2 J;go_frame)
     | fail)
    rw[b07,a3X,HD.out,strike_twice] at r;go_roundw;case rel=>exact ⟨_,W,r,c.out.2.2.1.andThen J.grown (fun j hj=>by cases hj;exact Or.inr rfl)⟩
    case measure=>rw [r.left_eq,c.out.1.left_eq];have:=c.out.2.2.2;omega
   ·have X:((Y:Int) == (i:Int))=false:=by rw[Al];omega
    rw[X] at C;have HD:=qh (b7O M.out.2.2.2 E o);have c:=qh (aI f (aI g (aI d h)));clear f g L Q K I D m S u d G h E o X z;go_wp2_with fail;refine C.out.mono ?_;rintro e w2 ⟨rfl,rfl⟩;go_wp2_with fail;go_roundw;case rel=>exact ⟨_,P,by rw[HD.out];exact c.out.2.1,c.out.2.2.1⟩
    case measure=>rw [c.out.2.1.left_eq,c.out.1.left_eq];exact c.out.2.2.2
def a7C(i:Nat)(x:It):It:=⟨x.n,x.b,x.names.filter fun q=> !decide (q.2=i)⟩
def b6l(i:Nat):Bool->Nat×It->Nat×It
 | true,p=>p
 | false,p=>(p.1,a7C i p.2)
theorem a9p(i:Nat)(b:Bool)(p:Nat×It):(b6l i b p).1=p.1:=by cases b <;>rfl
def a4o(left:Lit->Bool)(i:Nat)(T:Tr):Tr:=T.map fun p=>b6l i (left (numS.lit p.1)) p
theorem b4m(left:Lit->Bool)(i j:Nat)(T:Tr):getK j (a4o left i T)=(getK j T).map fun x=>(b6l i (left (numS.lit j)) (j,x)).2:=by
 unfold getK a4o
 induction T with
 | nil=>rfl
 | cons y r a=>
  rw[Au,List.find?_cons,List.find?_cons,a9p];by_cases h:y.1=j
  ·rw[AB h];simp only[Option.map_some];rw[h];cases left (numS.lit j) <;>rfl
  ·rw[Aq h];exact a
theorem b2k{left:Lit->Bool}{i j:Nat}{T:Tr}(d:T.Pairwise (fun p q=>p.1≠q.1)){x:It}(b:getK j T=some x):a01 (a4o left i T) j (a7C i x)=a4o (fun z=>left z && !z.sameKey (numS.lit j)) i T:=by
 unfold a01 a4o;rw[BU];refine AY fun p c=>?_
 simp only[Cx,a9p,a1q];by_cases e:p.1=j
 ·have a:=a0s d (k:=p.1) (v:=p.2) c;rw[e,b] at a;injection a with a
  rw[Ah e,AB e,Bool.not_true,Bool.and_false,a];rfl
 ·rw[Ag e,Aq e,B5,Cu]
theorem b2l{left:Lit->Bool}{i j:Nat}{T:Tr}(c:T.Pairwise (fun p q=>p.1≠q.1)){x:It}(f:getK j T=some x)(d:a7C i x=x):a4o (fun z=>left z && !z.sameKey (numS.lit j)) i T=a4o left i T:=by
 unfold a4o;refine AY fun p g=>?_
 simp only[a1q];by_cases e:p.1=j
 ·have a:=a0s c (k:=p.1) (v:=p.2) g;rw[e,f] at a;injection a with a
  have b:b6l i false p=p:=by show(p.1,a7C i p.2)=p;rw[<-a,d,a]
  rw[AB e,Bool.not_true,Bool.and_false,b];cases left (numS.lit p.1)
  ·exact b.symm
  ·rfl
 ·rw[Aq e,B5,Cu]
theorem b0C{left:Lit->Bool}{i:Nat}{T:Tr}(h:∀p∈T,left (numS.lit p.1)=true):a4o left i T=T:=by
 unfold a4o
 conv=>rhs;rw[<-List.map_id T]
 exact AY fun p a=>by rw[h p a];rfl
theorem b4n{left:Lit->Bool}{i:Nat}{T:Tr}(h:∀z,left z=false):a1K i (a4o left i T)=a6G T i:=by
 unfold a4o a6G;congr 1;exact AY fun p _=>by rw[h];rfl
def a4n(T:Tr)(i:Nat):Tr:=match getK i T with | some x=>if x.n.kind=1/\x.n.closed=false then a6G T i else T | none=>T
variable {w : World} {L B t mb c : Nat} {F G : Nat → Nat} {T : Tr}
theorem b23(h:TreeIn w L B t mb F G T)(gd:TGd c T)(hc:c<=60000)(i:Nat)(x:It)(Q:getK i T=some x):
  Calls Tryz.prog 143 #[.pointer (some ⟨t,0,none⟩),.int .i64 (i:Int)] w fun e w'=>(∃y:Nat,e= .returned (.int .i64 (y:Int)))/\TreeIn w' L B t mb F G (a4n T i)/\TChg B w w':=by
 have H:=(Ab w.heap.size w).alloc (Aa _) (.cells #[.int .i64 (i:Int)] 3);have hi:=(gd.1.nd i x Q).1;have HF:=qh (a2Q (h.below H) gd.1 i (by omega));obtain⟨-,v,m,U,-⟩:=(h.below H).item i x Q;obtain⟨-,-,-,-,-,d5,-,-⟩:=a0m U;have HB:=qh H;rcases gd.1.kind Q with hk | hk
 rotate_left
 ·have hf:fileT T i=22:=by unfold fileT;rw[Q];simp[hk]
  have HR:=qh (show a4n T i=T by unfold a4n;rw[Q];simp[hk]);rw[a4d _ _ _ (by omega),hf] at HF;have HT:=qh (h.below H);clear h gd Q hk hf U H hi;go_enter Tryz.func143,Tryz.ntmps143;go_wp2_with fail;refine HF.out.mono ?_;rintro e w1 ⟨rfl,rfl⟩;go_wp2_with fail;go_ret;exact⟨⟨22,rfl⟩,by rw[HR.out];exact HT.out,TChg.of_below HB.out⟩
 have hf:fileT T i=0:=by unfold fileT;rw[Q];simp[hk]
 rw[a4c _ _ _ hf] at HF;have HT:=qh (h.below H);obtain⟨cl,N⟩:=qnm x.n.closed;rw[<-N] at d5;cases cl with
 | true=>
  have HR:=qh (show a4n T i=T by unfold a4n;rw[Q];simp[<-N]);clear h gd Q hk hf U H hi N;go_enter Tryz.func143,Tryz.ntmps143;go_wp2_with fail;refine HF.out.mono ?_;rintro e w1 ⟨rfl,ac⟩;subst ac;go_wp2_with fail;go_ret;exact⟨⟨27,rfl⟩,by rw[HR.out];exact HT.out,TChg.of_below HB.out⟩
 | false=>
 have HR:=qh (show a4n T i=a6G T i by unfold a4n;rw[Q];simp[hk,<-N]);obtain⟨wb,W⟩:=qnm (w.alloc (.cells #[.int .i64 (i:Int)] 3));obtain⟨q,hq⟩:=qnm w.heap.size;have a8:wb.heap[q]? =some (.cells #[.int .i64 (i:Int)] 3 (0,0)):=by rw[W,hq];exact Ae w _
 have ax:=ltH a8;have ag:=qh (fun j y (hy:getK j T=some y) (hk:y.n.kind=2)=>show G j<q from by rw[hq];exact h.ltG hy hk);rw[<-W] at HT HF HB d5;have HG:=qh (aI gd (aI hi a8));have HW:=qh (aI W hq);clear h gd Q hk hf U H N W hi hq a8;go_enter Tryz.func143,Tryz.ntmps143;go_upto_region 1 with fail
 rw[<-HW.out.1,<-HW.out.2];have cq:wb.cell? ⟨q,0,none⟩=some (.int .i64 (i:Int)):=a0a HG.out.2.2 0;go_wp2_with fail;refine HF.out.mono ?_;rintro e w1 ⟨rfl,ac⟩;subst ac;have c0:=HT.out.cell0;obtain⟨n,hn⟩:=qnm ((vals (ival F) T).length);have HN:=qh hn;clear hn;go_wp2_with (first
  | (at_range;refine wpList_range_own _ rfl _ 226 rfl TI64 _ a1m a04 RH mb n _ rfl (by rw[HN.out];exact HT.out.map) ?_;intro wa P V af)
  | fail)
 obtain⟨r0,K⟩:=qnm wb.heap.size;rw[<-K] at P⊢;have Y:=qh (aI K (aI V af));have a3:=qh P;clear K V af P c0 cq d5;go_frame;go_loopw [8] (fun _ wx=>∃(left:Lit->Bool) (al:Nat),wx.ranges Tryz.prog TI64 RH mb r0 n (a3o numS (vals (ival F) T)) left al/\TreeIn wx L B t mb F G (a4o left i T)/\TChg B wb wx/\wx.heap[q]? =some (.cells #[.int .i64 (i:Int)] 3 (0,0)))
  (fun _ wx=>wx.rangeLeft mb r0)
 case atStart=>
  obtain⟨K,V,af⟩:=Y.out;have hb0:Below wb.heap.size wb wa:=(Ab _ wb).grown V (Aa _) (fun k hk=>by cases hk);refine⟨Maps.has (a3o numS (vals (ival F) T)),Maps.size (a3o numS (vals (ival F) T)),a3.out,?_,TChg.of_below hb0,(hb0.block q (by omega)).trans HG.out.2.2⟩;rw[b0C]
  ·exact HT.out.below hb0
  ·intro p hp;rw[a38,a1c,a0s HG.out.1.2.uq.1 (k:=p.1) (v:=p.2) hp];rfl
 case round=>
  obtain⟨left,al,d,a,S,D⟩:=hrel;clear a3;go_wp2_with (first
   | (at_next;refine wpList_next_ranges _ rfl _ rfl TI64 a1m RH (Value.int .i64) (fun v=>v) (fun aw kl hk=>by obtain⟨x,rfl,_⟩:=Maps.keyOf_int_inv Tryz.underlying3 hk;exact⟨x,rfl⟩) (fun v _ _=>⟨v,rfl⟩) mb r0 n _ _ _ rfl d ?_ ?_)
   | fail)
  ·intro _ ao;have a2:=a.below (Ab _ wr).drew;have aq:wr.drew.heap[q]? =some (.cells #[.int .i64 (i:Int)] 3 (0,0)):=D;have c0:=a.cell0;have cq:wr.cell? ⟨q,0,none⟩=some (.int .i64 (i:Int)):=a0a D 0;obtain⟨w2,am,E,a7⟩:=a2.map.del numS a1m a04 (a9I i (by have:=HG.out.2.1;omega)) 0;rw[a3X] at E;have ap:∀ty,(Builtin.delete_ #[226,3] ty #[.map (some mb),.int .i64 (i:Int)]).run Tryz.prog wr.drew= .ok (.tuple #[]) w2:=fun ty=>am
   have a5:=qh (show TreeIn w2 L B t mb F G (a6G T i)/\TChg B w w2 from by
    have h1:=a2.delItem (i:=i) (a0E a7) E;rw[b4n ao] at h1;exact⟨h1,(TChg.of_below HB.out).trans (S.trans ((TChg.of_below (Ab _ wr).drew).trans (TChg.map a7 a2.mge)))⟩)
   have av:=ltH D;clear d a S D a2 aq E a7 ao am;go_upto_region 10 with fail
   refine a0K 5 (by kernel_rfl) (by kernel_rfl) rfl ?_;simp only[qtc,a3E];repeat still_step
   refine AK ?_;go_wp2_with (at_builtin;refine a1Q rfl _ _ _ _ rfl _ _ rfl rfl ap ?_);go_ret;exact⟨⟨0,rfl⟩,by rw[HR.out];exact a5.out.1,a5.out.2⟩
  ·intro xk cv kl y ps w1 a4 R ad aa ab b r J an ar;obtain⟨j,rfl,rfl,a1⟩:=a4W (y:=(y,ps)) R aa ab;rw[a1c] at a1;obtain⟨xj,l,rfl⟩:=AU.1 a1;have I:Chg (fun k=>k=r0) wr w1:=⟨J.os,J.tape,J.output,J.size,fun k hk a9=>J.block k hk (fun e=>a9 (by injection e))⟩
   have M:=a7y d;have K:=Y.out.1;have a6:q≠r0:=by omega
   have g:TreeIn w1 L B t mb F G (a4o left i T):=by
    refine⟨a.tge,a.mge,(I.block t a.lt (fun e=>(M.1 _ _ _ (by rw[<-e];exact a.cel)).2.2 rfl)).trans a.cel,a.map.same numS (I.block mb a.map.lt (fun e=>d.ne e.symm)),fun k z hz=>?_,a.gm,a.injF,a.injG⟩;refine(a.item k z hz).chg I (fun k _ e C hC=>(M.1 _ _ _ (by rw[<-e];exact hC)).1 rfl) (fun e=>?_) (fun au e=>?_)
    ·obtain⟨v,m,U⟩:=a.block hz;exact(M.1 _ _ _ (by rw[<-e];exact U)).2.1 rfl
    ·obtain⟨-,v,m,-,-,h4,-⟩:=a.item k z hz;obtain⟨-,-,es,cl,hm,-⟩:=h4 au;exact M.2 es cl (by rw[<-e];exact hm)
   have o:w1.heap[q]? =some (.cells #[.int .i64 (i:Int)] 3 (0,0)):=(I.block q (ltH D) a6).trans D;have u:getK j (a4o left i T)=some xj:=by rw[b4m,l,show left (numS.lit j)=true from ad];rfl
   have s:TChg B wb w1:=Chg.trans (S':=fun k=>k=r0) S I (fun k hk e=>by omega);have c0:=g.cell0;obtain⟨-,v,m,U,-,h4,h5⟩:=g.item j xj u;have d7:w1.cell? ⟨F j,7,none⟩=some m:=a0a U 7;have a0:=qh (aI d (aI b (aI g (aI s (aI r (aI o (aI l u)))))));unfold ival at ar⊢;by_cases hk:xj.n.kind=2
   ·obtain⟨rfl,X,hM⟩:=h4 hk;have aj:=ag.out j xj l hk;have Z:=qh (b51 w1 (G j) q i xj.names hM (a0a o 0) (ltH o) (by omega));have HK:=qh (aI hk (aI X hM));clear d b J an r ab aa a1 R ad l u I K a6 g o s U h4 h5 a S D hM X hk aj M;go_wp2_with fail;refine Z.out.mono ?_;rintro e w2 ⟨rfl,E,A⟩;have ak:=qh (aI E A);clear E A;go_wp2_with fail;go_roundw;case rel=>
     obtain⟨d,b,g,s,_,o,l,u⟩:=a0.out;obtain⟨E,A⟩:=ak.out;obtain⟨hk,X,hM⟩:=HK.out;have ae:Chg (fun k=>k=G j) w1 w2:=⟨A.os,A.tape,A.output,A.size,fun k hk a9=>A.block k hk (fun e=>a9 (by injection e))⟩
     have aj:=ag.out j xj l hk;refine⟨_,a4,b.kept A (fun e=>g.gm j xj u hk (by injection e with e;exact e.symm)) (fun e=>by injection e with e;have:=Y.out.1;omega),?_,s.trans ?_,(ae.block q (ltH o) (by omega)).trans o⟩
     ·rw[<-b2k HG.out.1.2.uq.1 l];exact g.setNames u hk ae E
     ·obtain⟨es,cl,hm,_⟩:=hM;exact ae.mono (fun k _ e=>by rw[e];exact⟨X,.inr ⟨es,cl,hm⟩⟩)
    case measure=>
     obtain⟨d,b,g,_,r,_,l,u⟩:=a0.out;have O:=b.kept ak.out.2 (fun e=>g.gm j xj u HK.out.1 (by injection e with e;exact e.symm)) (fun e=>by injection e with e;have:=Y.out.1;have:=ag.out j xj l HK.out.1;omega);rw[O.left_eq,d.left_eq];exact r
   ·obtain⟨rfl,ai⟩:=h5 hk;have Z:=qh (AnyDf.maps_DeleteFunc_nil Tryz.delS (.func (.func 224) #[] #[.pointer (some ⟨q,0,none⟩)]) w1);have HK:=qh (show a7C i xj=xj by unfold a7C;rw[ai];cases xj;simp_all);clear d b J an r ab aa a1 R ad l u I K a6 g o s U h4 h5 a S D ai hk M;change Hid (Calls _ 223 _ _ _) at Z;go_wp2_with fail;refine Z.out.mono ?_;rintro e w2 ⟨rfl,ah⟩;have hb2:=qba ah;have f:=qh hb2;clear hb2 ah;go_wp2_with fail;go_roundw;case rel=>
     obtain⟨d,b,g,s,_,o,l,u⟩:=a0.out;exact⟨_,a4,b.kept (row:=none) ⟨f.out.os,f.out.tape,f.out.output,f.out.size,fun k hk _=>f.out.block k hk⟩ (by simp) (by simp),by rw[b2l HG.out.1.2.uq.1 l HK.out];exact g.below f.out,s.trans (TChg.of_below f.out),(f.out.block q (ltH o)).trans o⟩
    case measure=>
     obtain⟨d,b,_,_,r,_⟩:=a0.out;have O:=b.kept (row:=none) ⟨f.out.os,f.out.tape,f.out.output,f.out.size,fun k hk _=>f.out.block k hk⟩ (by simp) (by simp);rw[O.left_eq,d.left_eq];exact r
theorem b24(h:TreeIn w L B t mb F G T)(d:TGd c T)(l:c<=60000)(i:Nat)(m:i<=1000000):
  Calls Tryz.prog 143 #[.pointer (some ⟨t,0,none⟩),.int .i64 (i:Int)] w fun e w'=>(∃y:Nat,e= .returned (.int .i64 (y:Int)))/\TreeIn w' L B t mb F G (a4n T i)/\TChg B w w':=by
 cases b:getK i T with
 | some x=>exact b23 h d l i x b
 | none=>
  have a:=(Ab w.heap.size w).alloc (Aa _) (.cells #[.int .i64 (i:Int)] 3);have f:=qh (a2Q (h.below a) d.1 i m);have g:fileT T i=20:=by unfold fileT;rw[b]
  have k:=qh (show a4n T i=T by unfold a4n;rw[b]);rw[a4d _ _ _ (by omega),g] at f;have j:=qh (h.below a);have HB:=qh a;clear h d b g a;go_enter Tryz.func143,Tryz.ntmps143;go_wp2_with fail;refine f.out.mono ?_;rintro e n ⟨rfl,rfl⟩;go_wp2_with fail;go_ret;exact⟨⟨20,rfl⟩,by rw[k.out];exact j.out,TChg.of_below HB.out⟩
def a1C(T:Tr):Tr:=(T.map (·.1)).foldl a4n T
theorem TGd.drop1{c:Nat}{T:Tr}(h:TGd c T)(i:Nat):TGd c (a4n T i):=by
 unfold a4n;cases a:getK i T with
 | none=>exact h
 | some x=>
  simp only;split
  ·rename_i hk;exact h.drop (h.root1 a (by omega))
  ·exact h
theorem TGd.drops{c:Nat}(l:List Nat):∀ {T:Tr},TGd c T->TGd c (l.foldl a4n T):=by
 induction l with
 | nil=>exact fun h=>h
 | cons i r a=>exact fun h=>a (h.drop1 i)
end
section
open Go.RowKit Go.ChangeMaps Go.MapKept
variable {w : World} {L B t mb c : Nat} {F G : Nat → Nat} {T : Tr}
theorem a6I(h:TreeIn w L B t mb F G T)(U:TGd c T)(hc:c<=60000)(R:L<=w.heap.size):
  Calls Tryz.prog 68 #[.pointer (some ⟨t,0,none⟩)] w fun e w'=>∃t',e= .returned (.pointer (some ⟨t',0,none⟩))/\TreeAt w' L w.heap.size t' (a1C T)/\Below w.heap.size w w':=by
 have HC:=qh (a4y h U.1 hc R);have o:=qh U;clear h U;go_enter Tryz.func68,Tryz.ntmps68;go_wp2_with fail;refine HC.out.mono ?_;rintro e w1 ⟨t1,rfl,⟨S,F1,G1,u⟩,hb1⟩;have H:=qh u;have HI:=qh (a8g u o.out.1);have A:=qh (show Ext w.heap.size w w1 from⟨hb1,hb1.size⟩);clear u hb1;go_wp2_with fail;refine HI.out.mono ?_;rintro e w2 ⟨v2,rfl,s,hb2⟩;obtain⟨n,V⟩:=qnm ((T.map (·.1)).length);obtain⟨a2,c2,rfl,a0,J⟩:=s.at V.symm;have M:n=T.length:=by rw[V,AC]
 have a1:n<=64:=by have:=o.out.1.len;omega
 have Q:=qh (H.out.below hb2);have D:=qh (A.out.step hb2);have N:∀g,a2=some ⟨g,0,none⟩->∃C fr,w2.heap[g]? =some (.cells C TI64 fr):=fun g e=>by
  subst e;rcases s.2 with⟨e,_⟩ | ⟨g',cap,a3,e,_,h6,_⟩
  ·cases e
  ·injection e with e;injection e with e;injection e with e
   rw[e];exact⟨_,_,h6⟩
 have q:=qh (aI J (aI M N));clear s hb2 J V M A HI H N;go_wp2_with fail;go_loopw [12] (fun k wr=>∃j:Nat,j<=n/\k= .int .i64 (j:Int)/\TreeIn wr L w.heap.size t1 S F1 G1 (((T.map (·.1)).take j).foldl a4n T)/\TChg w.heap.size w2 wr) (fun k _=>n - (intOf k).toNat);case atStart=>exact ⟨0,by omega,rfl,Q.out,TChg.refl _ _⟩
 case round=>
  obtain⟨j,hj,rfl,m,d⟩:=hrel;by_cases E:j<n
  ·obtain⟨g,rfl,_,W,l⟩:=q.out.1 (by omega);obtain⟨C,fr,Y⟩:=q.out.2.2 g rfl;have r:j<(T.map (·.1)).length:=by rw[AC,<-q.out.2.1];exact E
   have z:=d.block g W (fun⟨_,b⟩=>by
    rcases b with⟨C',a4,b⟩ | ⟨es,cl,b⟩
    ·rw[Y] at b;injection b with b;injection b with _ b;exact absurd b (by decide)
    ·rw[Y] at b;injection b with b;cases b)
   have c0:=(Cc (a:=⟨g,j,none⟩) z).trans (l j r);have v:=Ar r;have f:=AE r;have x:=TGd.drops ((T.map (·.1)).take j) o.out;generalize(T.map (·.1))[j]=i at c0 v f;have hi:i<=1000000:=by
    obtain⟨p,hp,rfl⟩:=AX.1 f;have:=(o.out.1.nd p.1 p.2 (a0s o.out.2.uq.1 hp)).1;omega
   have HD:=qh (b24 m x hc i hi);have e1:(0:Int)<=(j:Int):=by omega
   have e2:(j:Int)<(n:Int):=by omega
   obtain⟨Z,I⟩:=qnm (j+1);have e3:IntKind.i64.wrap ((j:Int)+1)=(Z:Int):=by rw[Ak _ (by omega)];omega
   have P:=qh (aI I v);have X:=qh d;have a5:=Ai W d.size;clear l r I d hj m Y z v f x hi W;go_wp2_with fail;refine HD.out.mono ?_;rintro e w3 ⟨⟨y,rfl⟩,O,K⟩;have H3:=qh (aI O (X.out.trans K));clear O K;go_wp2_with fail;go_roundw;case rel=>
    refine⟨Z,by have:=P.out.1;omega,rfl,?_,H3.out.2⟩;rw[P.out.1,P.out.2,List.foldl_append];exact H3.out.1
   case measure=>
    have:=P.out.1;show n - (Z:Int).toNat<n - (j:Int).toNat;omega
  ·obtain rfl:j=n:=by omega
   rw[Am (by rw[AC,<-q.out.2.1];exact Aa _)] at m;have HF:=qh (aI m (D.out.1.trans (d.below D.out.1.size)));clear d E hj m;go_wp2_with fail;go_ret;exact⟨_,rfl,⟨_,_,_,HF.out.1⟩,HF.out.2⟩
theorem Commits.any{w:World}{L B t c:Nat}{T:Tr}(h:TreeAt w L B t T)(f:TGd c T)(d:c<=60000)(e:L<=w.heap.size):Commits w L t (a1C T):=fun w' a=>by
 obtain⟨mb,F,G,b⟩:=h;exact a6I (b.below a) f d (Ad e a.size)
theorem TGd.commit{c:Nat}{T:Tr}(h:TGd c T):TGd c (a1C T):=TGd.drops _ h
end
section
open Go.RowKit Go.ChangeMaps Go.MapKept
theorem a0A{w:World}{N:Nat}{k:Int}{ps e:ByteArray}{fd a f:Int}{til:Nat}{b:Int}{d:Option Addr}{g c:Nat}(h:w.heap[N]? =some (.cells (a0b k ps e fd a f til b d g c) TOp (0,0))):
  w.cell? ⟨N,0,none⟩=some (.int .i64 k)/\w.cell? ⟨N,1,none⟩=some (.string ps)/\w.cell? ⟨N,2,none⟩=some (.string e)/\w.cell? ⟨N,3,none⟩=some (.int .i64 fd)/\w.cell? ⟨N,4,none⟩=some (.int .i64 a)/\w.cell? ⟨N,5,none⟩=some (.int .i64 f)/\w.cell? ⟨N,6,none⟩=some (.int .u64 (til:Int))/\w.cell? ⟨N,7,none⟩=some (.int .i64 b)/\w.cell? ⟨N,8,none⟩=some (.slice d g c):=
 ⟨a0a h 0,a0a h 1,a0a h 2,a0a h 3,a0a h 4,a0a h 5,a0a h 6,a0a h 7,a0a h 8⟩
theorem a11{w:World}{N:Nat}{er a:Int}{c b:Value}{nd:Nd}(h:w.heap[N]? =some (.cells (rpC er a c b nd) TReply (0,0))):
  w.cell? ⟨N,0,none⟩=some (.int .i64 er)/\w.cell? ⟨N,1,none⟩=some (.int .i64 a)/\w.cell? ⟨N,2,none⟩=some c/\w.cell? ⟨N,3,none⟩=some b/\w.cell? ⟨N,4,none⟩=some (.int .i64 nd.id)/\w.cell? ⟨N,5,none⟩=some (.int .i64 nd.kind)/\w.cell? ⟨N,6,none⟩=some (.int .i64 nd.links)/\w.cell? ⟨N,7,none⟩=some (.int .i64 nd.size)/\w.cell? ⟨N,8,none⟩=some (.int .u64 (nd.til:Int))/\w.cell? ⟨N,9,none⟩=some (.bool nd.closed):=
 ⟨a0a h 0,a0a h 1,a0a h 2,a0a h 3,a0a h 4,a0a h 5,a0a h 6,a0a h 7,a0a h 8,a0a h 9⟩
theorem b1z{w f e:World}{N:Nat}{o:Array Value}(c:f=w.alloc (.cells o TOp))(d:e=f.alloc (.cells rpZ TReply))(h:N=w.heap.size):
  f.heap.size=w.heap.size+1/\e.heap.size=w.heap.size+2/\Below w.heap.size w e/\e.heap[N]? =some (.cells o TOp (0,0))/\e.heap[N+1]? =some (.cells rpZ TReply (0,0)):=by
 have hb1:=qba c;have a:=qba d;have b:f.heap.size=w.heap.size+1:=by rw[c];simp
 have g:e.heap.size=w.heap.size+2:=by rw[d];simp[b]
 refine⟨b,g,hb1.trans (a.mono hb1.size),?_,?_⟩
 ·rw[h];exact(a.block _ (by omega)).trans (by rw[c];exact Ae w _)
 ·rw[h,<-b,d];exact Ae f _
end
end Go.Proofs.YtbemfdcjieakdaaGreatDoor
