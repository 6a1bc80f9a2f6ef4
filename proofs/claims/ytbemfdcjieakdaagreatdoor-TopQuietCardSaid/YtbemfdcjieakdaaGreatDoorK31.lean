/- TreeRight; TreeLoad; StLoad. -/
import Derived.Test.YtbemfdcjieakdaaGreatDoorK26
import Derived.Test.YtbemfdcjieakdaaGreatDoorK30
set_option maxRecDepth 100000
set_option maxHeartbeats 8000000
namespace Go.Proofs.YtbemfdcjieakdaaGreatDoor
section
open Go.RowKit Go.ChangeMaps Go.MapKept Go.Maps
structure TrRight (T:Tr):Prop where
 deep:Deep T 8 0
 few:∀k,(cntN T 8 0).count k<=60000
 one:∀k y,getK k T=some y->y.n.kind=2->(if k=0 then 1 else 0)+(cntN T 8 0).count k<=1
 links:∀k y,getK k T=some y->(((if k=0 then 1 else 0)+(cntN T 8 0).count k:Nat):Int)=y.n.links
 open0:∀k y,getK k T=some y->y.n.links=0->y.n.closed=false
variable {L B t mb c : Nat} {F G : Nat → Nat} {T : Tr} {w : World}
theorem a3A(w:World):w.grownBy w.drew none:=⟨rfl,rfl,rfl,Aa _,fun _ _ _=>rfl⟩
theorem a8w(k:Nat):cntK [(0,1)] k=if k=0 then 1 else 0:=by
 unfold cntK getK;by_cases h:k=0
 ·subst h;rfl
 ·have:¬0=k:=fun e=>h e.symm
  simp[h,this]
theorem b1B(h:TreeIn w L B t mb F G T)(ok:TrOk c T)(hc:c<=60000)(hr:TrRight T):
  Calls Tryz.prog 334 #[.pointer (some ⟨t,0,none⟩)] w fun e w'=>e= .returned (.bool true)/\Below w.heap.size w w':=by
 obtain⟨x,hx,aq,_⟩:=hr.deep.dir;have c0:=h.cell0;have W:=h.hit2 hx (by omega);rw[show((0:Nat):Int)=0 from rfl] at W;obtain⟨_,v,m,h2,_,_,_⟩:=h.item 0 x hx;obtain⟨_,d1,_⟩:=a0m h2;rw[aq] at d1;have P:=b0t h.map T.length (a1p _ _);have N:=ok.len;obtain⟨n,hn⟩:=qnm T.length;rw[<-hn] at P N
 -- the counts
 obtain⟨w1,K⟩:=qnm (w.alloc (.map #[] 0));have hb1:=qba K;have ah:MapAt numS Tryz.prog TI64 w1 w.heap.size (vals b2D []):=by rw[K];exact MapAt.made numS w
 obtain⟨w2,Z,an,ac⟩:=ah.put numS a1m b0G (by rw[a1p];simp) (a9I 0 (by omega)) (.int .i64 1);have am:=a0E ac;have V:MapAt numS Tryz.prog TI64 w2 w.heap.size (vals b2D [(0,1)]):=an;have hb2:Below w.heap.size w w2:=hb1.trans (am.below hb1.size (fun k _ e=>by omega));have u:=(a9d (cb:=w.heap.size) h ok hc (Aa _) 8 (Aa _) 0 [(0,1)] w2 hb2 V (fun p hp=>by simp at hp;subst hp;omega) hr.deep (fun k=>by rw[a8w];have:=hr.few k;split <;>omega) (fun k y h1 h2=>by rw[a8w];exact hr.one k y h1 h2))
 rw[show((0:Nat):Int)=0 from rfl] at u;have X:=qh (aI h (aI ok (aI hr hn)));have HW:=qh (aI K (aI hb2 h.mge));obtain⟨cb,Y⟩:=qnm w.heap.size;rw[<-Y] at Z u;have ao:=qh u;have a5:=qh Y;clear h ok hr h2 hx aq ah an V am ac hb2 hb1 K hn Y u;go_enter Tryz.func334,Tryz.ntmps334;go_upto_region 4 with fail
 go_upto_region 5 with(first
  | (rw[run_makeMap])
  | (rw[<-HW.out.1];rw[<-a5.out])
  | (refine a1b rfl _ _ _ _ (.inr rfl) _ _ _ rfl rfl rfl Z ?_))
 go_wp2_with fail;refine ao.out.mono ?_;rintro e w3 ⟨rfl,⟨K3,g,ap,R⟩,ag⟩;obtain⟨_,hb2,au⟩:=HW.out;have j:=a5.out;have hb3:Below w.heap.size w w3:=hb2.trans (ag.below hb2.size (fun k _ e=>by rw[e,<-j];omega));have a1:=X.out.1.below hb3;have c0:=a1.cell0;have az:=qh a1.map;have HV:=qh (show n=(vals (ival F) T).length from by rw[a1p];exact X.out.2.2.2);have o:∀k,cntK K3 k=(if k=0 then 1 else 0)+(cntN T 8 0).count k:=fun k=>by rw[R,a8w]
 have f:mb<w.heap.size:=X.out.1.map.lt;have H3:=qh (aI g (aI o (aI hb3 f)));clear W P N d1 Z ao g ap R ag hb2 au j hb3 a1 o f;go_wp2_with (first
  | (at_range;refine wpList_range_own _ rfl _ 226 rfl TI64 _ a1m a04 RH mb n _ rfl (by rw[HV.out];exact az.out) ?_;intro wa z I a4)
  | fail)
 obtain⟨r0,s⟩:=qnm w3.heap.size;rw[<-s] at z⊢;have ae:=qh (aI s (aI I a4));have M:=qh z;clear s I a4 z c0;go_frame;go_loopw [6,7] (fun _ _ wx=>∃(left:Lit->Bool) (ad:Nat),wx.ranges Tryz.prog TI64 RH mb r0 n (a3o numS (vals (ival F) T)) left ad/\MapAt numS Tryz.prog TI64 wx cb (vals b2D K3)/\Below w.heap.size w wx/\r0<wx.heap.size)
  (fun _ _ wx=>wx.rangeLeft mb r0)
 case atStart=>
  obtain⟨s,I,a4⟩:=ae.out;obtain⟨g,o,hb3,f⟩:=H3.out;have hb0:Below w3.heap.size w3 wa:=(Ab _ w3).grown I (Aa _) (fun k hk=>by cases hk);exact⟨_,_,M.out,g.below numS hb0,hb3.trans (hb0.mono hb3.size),by omega⟩
 case round=>
  obtain⟨left,ad,r,J,H,l⟩:=hrel;clear M;go_wp2_with (first
   | (at_next;refine wpList_next_ranges _ rfl _ rfl TI64 a1m RH (Value.int .i64) (fun v=>v) (fun aB kl hk=>by obtain⟨x,rfl,_⟩:=Maps.keyOf_int_inv Tryz.underlying3 hk;exact⟨x,rfl⟩) (fun v _ _=>⟨v,rfl⟩) mb r0 n _ _ _ rfl r ?_ ?_)
   | fail)
  ·intro _ ay;have HF:=qh H;clear r J H ay l;go_wp2_with fail;go_ret;exact⟨rfl,HF.out⟩
  ·intro xk cv kl y ps w4 af U u ak al b C q a3 ax;obtain⟨i,rfl,rfl,a2⟩:=a4W (y:=(y,ps)) U ak al;rw[a1c] at a2;obtain⟨y2,D,rfl⟩:=AU.1 a2;have a0:Chg (fun k=>k=r0) wr w4:=⟨q.os,q.tape,q.output,q.size,fun k hk av=>q.block k hk (fun e=>av (by injection e))⟩
   obtain⟨g,o,hb3,f⟩:=H3.out;have s:=ae.out.1;have j:=a5.out;have ab:=g.lt;have d:Below w.heap.size w w4:=H.trans (a0.below H.size (fun k _ e=>by have:=hb3.size;omega));have E:MapAt numS Tryz.prog TI64 w4 cb (vals b2D K3):=J.same numS (a0.block cb J.lt (by omega));have a7:=X.out.1.below d;have aw:=(X.out.2.1.nd i y2 D).1;have Q:=a8t (E.kept numS (a3A w4) (by simp)) i (by omega);obtain⟨_,v2,aC,a6,_⟩:=a7.item i y2 D;obtain⟨q0,q1,q2,q3,q4,q5,q6,q7⟩:=a0m a6;have a:=X.out.2.2.1.links i y2 D;rw[<-o] at a;have A:=X.out.2.2.1.open0 i y2 D;rw[<-a] at q2;obtain⟨lk,O⟩:=qnm (cntK K3 i);rw[<-O] at q2 Q a;obtain⟨cl,a8⟩:=qnm y2.n.closed;rw[<-a8] at q5 A;have ai:lk=0->cl=false:=fun h=>A (by rw[<-a,h];rfl)
   have aj:=qh (aI r (aI b (aI E (aI d (aI C (aI a3 l))))));have ar:=qh ai;have aD:=ltH a6;unfold ival at ax⊢;clear r b q a3 C al ak a2 U u D a0 g o hb3 f s j ab d E a7 aw a6 a A O a8 J H l q0 q1 q3 q4 q6 q7 ai;go_upto_region 10 with fail
   have aE:((lk:Int) != (lk:Int))=false:=bne_self_eq_false _;go_cut [73] (fun v wx=>v= .bool false/\wx=w4.drew);case first=>
    by_cases h0:lk=0
    ·obtain rfl:=ar.out h0;subst h0;refine Cb 23 (by kernel_rfl) (by kernel_rfl) ?_;simp only[BL,BN,BM,BP];repeat still_step
     refine AK ?_;go_wp2_with fail;go_meet;exact⟨rfl,rfl⟩
    ·have h1:((lk:Int) == 0)=false:=by rw[Al];omega
     refine wp_region_held_drew (S:=(fun w'=>w'.cell? ⟨F i,2,none⟩=some (.int .i64 (lk:Int))/\w'.cell? ⟨F i,5,none⟩=some (.bool cl)/\(Instr.lookup 425 (.map (some cb)) (.int .i64 (i:Int)) false).run Tryz.prog w'= .ok (.int .i64 (lk:Int)) w')) (by kernel_rfl) ?_ (fun hHeld=>?_)
     ·exact⟨q2,q5,Q⟩
     refine qth 0 50 ?_;refine qth 1 51 ?_;refine qth 2 52 ?_ (hy:=Or.inl ⟨by rfl,by intro w a9;(try dsimp only at a9);have aA:=a9.2.2;go_simp;(try with_reducible rfl)⟩);refine qth 3 53 ?_;refine qth 4 54 ?_;refine qth 5 55 ?_;refine qth 6 56 ?_;refine qth 7 57 ?_;refine qth 8 58 ?_;refine qth 9 59 ?_;refine qth 10 60 ?_;refine qth 11 61 ?_;refine qth 12 62 ?_;refine qth 13 63 ?_;refine qth 14 64 ?_;refine qth 15 65 ?_;refine qth 16 66 ?_;refine qtv 17 67 ?_;refine qtv 18 68 ?_;refine qtv 19 69 ?_;refine qtv 20 70 ?_;refine qtv 21 71 ?_;refine qth 22 72 ?_;refine qth 23 73 ?_;refine Bn (by kernel_rfl) ?_ _;clear hHeld;go_wp2_with fail;go_meet;exact⟨rfl,rfl⟩
   case rest=>
    obtain⟨rfl,rfl⟩:=hcut;go_wp2_with fail;go_roundw;case rel=>
     obtain⟨_,b,E,d,_,a3,l⟩:=aj.out;exact⟨_,af,b.kept (a3A w4) (by simp) (by simp),E.kept numS (a3A w4) (by simp),d.drew,by show r0<w4.heap.size;omega⟩
    case measure=>
     obtain⟨r,b,_,_,C,_⟩:=aj.out;have aa:=b.kept (a3A w4) (by simp) (by simp);rw[aa.left_eq,r.left_eq];omega
end
section
open Go.RowKit Go.ChangeMaps Go.MapKept Go.Maps
structure TrGood (c:Nat) (T:Tr):Prop where
 ok:TrOk c T
 right:TrRight T
 it:∀p∈T,ItOk p.2
 rise:T.Pairwise (fun p q=>p.1<q.1)
variable {L B t mb c : Nat} {F G : Nat → Nat} {T : Tr} {w : World}
theorem b3B(k:Nat)(v:It)(L:Tr)(h:∀p∈L,p.1<k):a1w numS k v L=L ++[(k,v)]:=by
 have b:L.filter (fun p=> !decide (p.1=k))=L:=Ce.2 (fun p a=>by
  have c:=h p a;have:p.1≠k:=by omega
  simp[this])
 unfold a1w;rw[b];clear b
 induction L with
 | nil=>rfl
 | cons y r d=>
  have c:=h y (AL ..);have e:a6O numS (k,v) (y :: r)=y :: a6O numS (k,v) r:=by
   show(if numS.lt k y.1 then _ else _)=_;rw[show numS.lt k y.1=false from Aq (by omega)];rfl
  rw[e,d (fun p a=>h p (AI _ a))];rfl
theorem b1D{l:Tr}(h:l.Pairwise (fun p q=>p.1<q.1)){j:Nat}(a:j<l.length):(∀p∈l.take j,p.1<(l[j]'a).1):=by
 intro p c;obtain⟨i,b,rfl⟩:=Bi c;rw[List.getElem_take];rw[Av] at b;exact List.pairwise_iff_getElem.1 h i j (by omega) a (by omega)
theorem ItAt.base{L' B g nb:Nat}{x:It}(h:ItAt w L B g nb x)(c:L'<=L):ItAt w L' B g nb x:=by
 obtain⟨d,v,m,e,h3,a,b⟩:=h;exact⟨d,v,m,e,h3.base c,a,b⟩
theorem b57{l w:World}{id g nb:Nat}{x:It}(b:TreeIn l L B t mb F G T)(h:TreeIn w L B t mb F G T)(f:ItAt w L l.heap.size g nb x)(c:getK id T=none)(hid:id<=1000000)(z:T.length<=100000):
  ∃w',(Instr.mapUpdate 226 (.map (some mb)) (.int .i64 (id:Int)) (.pointer (some ⟨g,0,none⟩))).run Tryz.prog w= .ok () w'/\
   TreeIn w' L B t mb (upd F id g) (upd G id nb) (a1w numS id x T)/\w.mapTurned w' mb:=by
 obtain⟨w',K,u,r⟩:=h.map.put numS a1m a04 (by rw[a1p];omega) (a9I id (by omega)) (.pointer (some ⟨g,0,none⟩));have A:=a0E r;have s:=b.map.lt;have J:=f.1;have a:x.n.kind=2->l.heap.size<=nb:=fun hk=>by
  obtain⟨_,v,m,_,_,H,_⟩:=f;exact(H hk).2.1
 refine⟨w',K,TreeIn.addItem h A ?_ (fun j y i=>?_) (fun hk=>⟨?_,fun j y i p=>?_⟩) ?_,r⟩
 ·have o:=b.tge;have q:=b.lt;exact(f.chg A (fun k _ e C d=>by
   subst e;obtain⟨N,M,E,_⟩:=h.map;rw[E] at d;injection d with d;cases d) (by omega) (fun hk=>by have:=a hk;omega)).weaken (by omega)
 ·have:=b.ltF i;omega
 ·have:=a hk;omega
 ·have:=b.ltG i p;have:=a hk;omega
 ·have D:vals (ival F) T=vals (ival (upd F id g)) T:=a48 (fun k v hk=>by
   unfold ival upd;rw[Ag (fun e=>by rw[e,c] at hk;cases hk)]) h.ne
  have I:Value.pointer (some ⟨g,0,none⟩)=ival (upd F id g) id x:=by unfold ival upd;rw[Ah rfl]
  rw[D,I,a3W] at u;exact u
theorem a5u{P q:Nat}{d:Option Nat}{W:World}{X:List UInt8}(h:RC P q d W X):a5o W q:=by
 obtain⟨_,a,cap,c,_⟩:=h.rd;exact⟨fun C g i b=>by rw[c] at b;injection b with b;injection b with _ b;subst b;exact⟨by decide,by decide,by decide⟩,fun e f b=>by rw[c] at b;injection b with b;cases b⟩
def a7x(l:Tr):Int:=(l.getLast?.map fun p=>(p.1:Int)).getD (-1)
theorem b0v(l:Tr)(p:Nat×It):a7x (l ++[p])=(p.1:Int):=by simp[a7x]
def b8e(l:Tr):List UInt8:=(l.map fun p=>a1e p.2).flatten
theorem b35(p:Nat×It)(l:Tr):b8e (p :: l)=a1e p.2 ++b8e l:=by simp[b8e]
theorem b2X(a:Option Addr)(V cap:Nat)(w:World)(hg:TrGood c T)(hc:c<=60000)(hB:Bs w a V cap (a0p T))(hl:V<=big):
  Calls Tryz.prog 311 #[.slice a V cap] w fun e w'=>∃t,e= .returned (.tuple #[.pointer (some ⟨t,0,none⟩),.int .i64 0])/\TreeAt w' w.heap.size w.heap.size t T/\Below w.heap.size w w':=by
 have an:=hg.ok.len;have HG:=qh hg;have HN:=qh (a80 a V cap _ w hB hl);obtain⟨n,hn⟩:=qnm T.length;rw[<-hn] at an;have X:=qh hn;clear hB hg hn;go_enter Tryz.func311,Tryz.ntmps311;go_wp2_with fail;refine HN.out.mono ?_;rintro e u ⟨q,rb,rfl,O,hb1⟩;have ab:=qh (aI O.qlt O.rlt);obtain⟨aa,_⟩:=O.rd;have C:=((Ext.refl u).alloc (.map #[] 0)).alloc (.cells #[.map (some u.heap.size)] TTree);have hN:=Ae (u.alloc (.map #[] 0)) (.cells #[.map (some u.heap.size)] TTree);have am:=(MapAt.made numS (P:=Tryz.prog) (k:=TI64) u).below numS ((Ab _ _).alloc (Aa _) (.cells #[.map (some u.heap.size)] TTree));rw[AR] at hN;have a7:TreeIn ((u.alloc (.map #[] 0)).alloc (.cells #[.map (some u.heap.size)] TTree)) w.heap.size u.heap.size (u.heap.size+1) u.heap.size (fun _=>0) (fun _=>0) []:=by
  refine⟨by omega,Aa _,hN,am,fun i x Q=>?_,fun i x Q=>?_,fun i j x y Q=>?_,fun i j x y Q=>?_⟩ <;>simp [getK] at Q
 obtain⟨w2,a4⟩:=qnm ((u.alloc (.map #[] 0)).alloc (.cells #[.map (some u.heap.size)] TTree));rw[<-a4] at C a7;have ac:=O.below C.1;have e0:a0p T=be n 2 ++b8e T:=by rw[X.out];rfl
 rw[e0] at ac;have ad:=qh (aI a7 (aI (hb1.trans (C.1.mono hb1.size)) aa));have ag:=qh (a2B n ac (by omega));obtain⟨t2,I⟩:=qnm (u.heap.size+1);obtain⟨m2,N⟩:=qnm u.heap.size;have H:=qh (aI a4 (aI I (aI N hb1.size)));clear O hb1 C hN am a7 ac a4 I N e0 HN aa;go_upto_region 3 with(rw[run_makeMap])
 rw[<-H.out.1];rw[<-H.out.2.1];go_wp2_with fail;refine ag.out.mono ?_;rintro e w3 ⟨rfl,a0,R⟩;obtain⟨z,K,aa⟩:=ad.out;obtain⟨_,I,N,_⟩:=H.out;rw[<-I,<-N] at z;have av:=ab.out.1;have S:TreeIn w3 w.heap.size u.heap.size t2 m2 (fun _=>0) (fun _=>0) []:=by
  refine⟨by have:=z.tge;omega,by omega,(R.block t2 z.lt (by omega)).trans z.cel,z.map.same numS (R.block m2 z.map.lt (by omega)),fun i x Q=>?_,fun i x Q=>?_,fun i j x y Q=>?_,fun i j x y Q=>?_⟩ <;>simp [getK] at Q
 have D:Below w.heap.size w w3:=K.trans (R.below K.size (fun k _ e=>by omega));have H3:=qh (aI a0 (aI S D));clear a0 R z K I N av S D ad ag;go_wp2_with fail;go_loopw [6,7,8,16] (fun l _ _ i wr=>∃(j:Nat) (F G:Nat->Nat),j<=n/\i= .int .i64 (j:Int)/\l= .int .i64 (a7x (T.take j))/\RC w.heap.size q rb wr (b8e (T.drop j))/\TreeIn wr w.heap.size u.heap.size t2 m2 F G (T.take j)/\Below w.heap.size w wr) (fun _ _ _ i _=>n - (intOf i).toNat);case atStart=>
  obtain⟨a0,S,D⟩:=H3.out;exact⟨0,_,_,AH _,rfl,rfl,by simpa using a0,S,D⟩
 case round=>
  obtain⟨j,F,G,hj,rfl,rfl,hR,E,d⟩:=hrel;clear H3;by_cases aj:j<n
  ·have s:j<T.length:=by rw[<-X.out];exact aj
   have a5:=Bm s;have W:=BH s;have Z:=HG.out.it _ (AE s);have o:=b1D HG.out.rise s;have a1:=a0s (HG.out.rise.imp (fun {a b} ar=>Nat.ne_of_lt ar)) (k:=(T[j]'s).1) (v:=(T[j]'s).2) (AE s);generalize T[j]'s=p at a5 W Z o a1;obtain⟨id,x⟩:=p;simp only at Z o a1;obtain⟨hid,a2,_⟩:=HG.out.ok.nd id x a1;rw[a5,b35] at hR;have Y:=hR.rd.1;have ay:=qh (a5u hR);have ai:=qh (b2W x Z hR);have m:=b3B id x (T.take j) o;rw[W] at m;have r:a7x (T.take (j+1))=(id:Int):=by rw[<-W,b0v]
   obtain⟨la,a6⟩:=qnm (a7x (T.take j));have ak:la<(id:Int):=by
    rw[a6];unfold a7x;cases hq:(T.take j).getLast? with
    | none=>simp;omega
    | some y=>have:=o y (BF hq);simp;omega
   rw[<-a6];have f:getK id (T.take j)=none:=by
    unfold getK;rw[CB.2 (fun p hp=>by have:=o p hp;simp;omega)];rfl
   have J:(T.take j).length<=100000:=by rw[Av];omega
   have HP:=qh (aI m (aI r (aI f (aI J hid))));have ah:=qh (aI E (aI d Y));have e1:(0:Int)<=(j:Int):=by omega
   have e2:(j:Int)<(n:Int):=by omega
   have az:¬((id:Int)<=la):=by omega
   obtain⟨j2,A⟩:=qnm (j+1);have e3:IntKind.i64.wrap ((j:Int)+1)=(j2:Int):=by rw[Ak _ (by omega)];omega
   have HJ:=qh A;have aq:=qh a2;clear s a5 W Z o a1 hR m r a6 ak f J E d Y A hj hid a2;go_wp2_with fail;refine ai.out.mono ?_;rintro e w4 ⟨g,nb,rfl,al,ae,a8⟩;obtain⟨E,d,Y⟩:=ah.out;have a3:TreeIn w4 w.heap.size u.heap.size t2 m2 F G (T.take j):=E.alien H.out.2.2.2 a8 (fun k hk e=>.inr (by subst e;exact ay.out));have M:Below w.heap.size w w4:=d.trans (a8.below d.size (fun k _ e=>by omega));obtain⟨m,r,f,J,hid⟩:=HP.out;obtain⟨w5,ax,L,ap⟩:=b57 E a3 (al.base d.size) f (by omega) J;have a9:=a0E ap;rw[m] at L;have au:=E.mge;have U:=ae.chg a9 (fun k hk e=>by
    rcases hk with hk | hk
    ·have:=ab.out.1;omega
    ·have:=ab.out.2 k hk;omega)
   have B:Below w.heap.size w w5:=M.trans (a9.below M.size (fun k _ e=>by have:=H.out.2.2.2;omega));have H5:=qh (aI U (aI L B));have c0:=a3.cell0;obtain⟨_,v4,aA,af,_⟩:=al;obtain⟨d0,_⟩:=a0m af;rw[aq.out] at d0;clear ae a8 E d Y a3 M m r f J hid L ap a9 au U B af ai ah;go_wp2_with (at_mapUpdate;refine a1b rfl _ _ _ _ (.inl rfl) _ _ _ rfl rfl rfl ax ?_);go_roundw;case rel=>
    obtain⟨U,L,B⟩:=H5.out;have A:=HJ.out;refine⟨j2,upd F id g,upd G id nb,by omega,rfl,?_,?_,?_,B⟩
    ·rw[A,HP.out.2.1]
    ·rw[A];exact U
    ·rw[A];exact L
   case measure=>
    have A:=HJ.out;show n - (j2:Int).toNat<n - (j:Int).toNat;omega
  ·obtain rfl:j=n:=by omega
   clear aj;have hd:T.drop j=[]:=Bh (by rw[X.out];exact Aa _);have ht:T.take j=T:=Am (by rw[X.out];exact Aa _);rw[hd] at hR;rw[ht] at E⊢;have HE:=qh (b3A hR);rw[Ah (show b8e []=[] from rfl)] at HE;have aw:=qh (b1B E HG.out.ok hc HG.out.right);have HF:=qh (aI E d);clear hR E d hd ht;go_wp2_with fail;refine HE.out.mono ?_;rintro e w' ⟨rfl,rfl⟩;go_wp2_with fail;refine aw.out.mono ?_;rintro e w6 ⟨rfl,hb6⟩;obtain⟨E,d⟩:=HF.out;have ao:=qh (show TreeAt w6 w.heap.size w.heap.size t2 T/\Below w.heap.size w w6 from⟨⟨m2,F,G,(E.below hb6)⟩ |> fun h=>TreeAt.weaken h H.out.2.2.2,d.trans (hb6.mono d.size)⟩);clear E d hb6;go_wp2_with fail;go_ret2;exact⟨_,rfl,ao.out.1,ao.out.2⟩
end
section
open Go.RowKit Go.ChangeMaps Go.MapKept
structure Sn0 (S:SnS):Prop where
 no:S.l=[]
 lo:1<=S.next
 hi:S.next<=1099511627776
 last:S.last.length=if S.next=1 then 0 else 32
theorem Sn0.len{S:SnS}(h:Sn0 S):S.last.length<=32:=by rw[h.last];split <;>omega
theorem b2r(n:Nat)(w:World)(h:n<=1099511627776):Calls Tryz.prog 174 #[.int .u64 (n:Int)] w fun e w'=>e= .returned (.bool true)/\w=w':=by
 have a:(n:Int)<=1099511627776:=by omega
 go_enter Tryz.func174,Tryz.ntmps174;go_wp2_with fail;go_ret;exact⟨rfl,rfl⟩
theorem b3z{q H:Nat}{W w':World}{v:Value}{xs:List UInt8}(a:Own W H v xs)(c:q<H)(b:Chg (fun k=>k=q) W w'):Own w' H v xs:=b.own a (fun k hk e=>by have:=a.ge k hk;omega)
theorem a9R(a:Option Addr)(l cap:Nat)(w:World)(S:SnS)(h:Sn0 S)(P:Bs w a l cap (a05 S))(C:Nat):
  Calls Tryz.prog 312 #[.slice a l cap] w fun e w'=>∃W,e= .returned (.tuple #[.pointer (some ⟨W,0,none⟩),.int .i64 0])/\SnapsAt w' w.heap.size w.heap.size C W S/\Below w.heap.size w w':=by
 have R:=h.len;have K:l<=1000:=by
  have:=P.1;rw[<-this];unfold a05;rw[h.no];have:=a12 S.last;simp[a0d];omega
 have Y:=qh (a80 a l cap _ w P (by unfold big;omega));have u:=qh h;obtain⟨c,v⟩:=qnm S.next
 have r:=h.lo;have y:=h.hi;rw[<-v] at r y;have f:=qh v;clear P K h v;go_enter Tryz.func312,Tryz.ntmps312;go_wp2_with fail;refine Y.out.mono ?_;rintro e w1 ⟨q,Z,rfl,j,hb1⟩;have n:RC w.heap.size q Z w1 (be c 8 ++(a0j S.last ++(be 0 1 ++[]))):=by
  have e:a05 S=be c 8 ++(a0j S.last ++(be 0 1 ++[])):=by unfold a05;rw[f.out,u.out.no];simp
  rw[e] at j;exact j
 have X:=qh (a6j c n (by omega));have g:=qh (aI hb1 j.rd.1);clear j hb1 n Y;go_wp2_with fail;refine X.out.mono ?_;rintro e w2 ⟨rfl,t,F⟩;have U:=qh (a5L S.last t (by omega));have o:=t.qlt;have hb2:Below w.heap.size w w2:=g.out.1.trans (F.below g.out.1.size (fun k _ e=>by have:=g.out.2;omega));have m:=qh (aI hb2 o);clear t F hb2 X o;go_wp2_with fail;refine U.out.mono ?_;rintro e w3 ⟨⟨v3,rfl,d⟩,H,E⟩;have V:=qh (b7o 0 H (by omega));obtain⟨ln,hln⟩:∃ln,S.last.length=ln:=⟨_,rfl⟩
 obtain⟨G,N,rfl,_⟩:=d.bsn hln;have hb3:Below w.heap.size w w3:=m.out.1.trans (E.below m.out.1.size (fun k _ e=>by have:=g.out.2;omega));have Q:=qh (aI hb3 (aI d hln));have O:ln<=32:=by omega
 clear d H E hb3 U hln;go_wp2_with fail;refine V.out.mono ?_;rintro e w4 ⟨rfl,B,x⟩;obtain⟨hb3,d,hln⟩:=Q.out;have hb4:Below w.heap.size w w4:=hb3.trans (x.below hb3.size (fun k _ e=>by have:=g.out.2;omega));have D:=(b3z d m.out.2 x).base m.out.1.size;have p:=qh (b3A (L:=[]) (B.below ((Ab _ _).alloc (Aa _) (.cells #[.slice none 0 0,.int .i64 (c:Int),.slice G ln N] a1A))));have s:=(Ab w4.heap.size w4).alloc (Aa _) (.cells #[.slice none 0 0,.int .i64 (c:Int),.slice G ln N] a1A);have z:=qh (show SnapsAt (w4.alloc (.cells #[.slice none 0 0,.int .i64 (c:Int),.slice G ln N] a1A)) w.heap.size w.heap.size C w4.heap.size S/\Below w.heap.size w (w4.alloc (.cells #[.slice none 0 0,.int .i64 (c:Int),.slice G ln N] a1A)) from by
  refine⟨⟨hb4.size,_,_,[],?_,D.below s,by rw[u.out.no];rfl,by rw[u.out.no];exact A6 _ _ _ _,fun i A=>by rw[u.out.no] at A;simp at A⟩,hb4.trans (s.mono hb4.size)⟩;rw[<-f.out];exact Ae w4 _)
 have e1:IntKind.i64.wrap (c:Int)=(c:Int):=Ak _ (by omega);have b:=u.out.last;rw[hln,<-f.out] at b;have J:=qh b;clear hb3 d hln hb4 D s B x V b r y R;obtain⟨M,T⟩:=qnm w4.heap.size;rw[<-T] at z;have HM:=qh T;clear T;go_upto_region 5 with fail
 rw[<-HM.out];obtain⟨w5,I⟩:=qnm (w4.alloc (.cells #[.slice none 0 0,.int .i64 (c:Int),.slice G ln N] a1A));rw[<-I] at z p⊢;clear I;have r:¬(c:Int)<1:=by have:=u.out.lo;have:=f.out;omega
 have y:¬(1099511627776:Int)<(c:Int):=by have:=u.out.hi;have:=f.out;omega
 by_cases A:c=1
 ·have hln:ln=0:=by have h:=J.out;rwa [Ah A] at h
  subst A;subst hln;go_wp2_with fail;refine BQ 1 ?_;rw[A0];go_wp2_with fail;refine p.out.mono ?_;rintro e w' ⟨rfl,rfl⟩;go_wp2_with fail;go_ret2;exact⟨_,rfl,z.out.1,z.out.2⟩
 ·have hln:ln=32:=by have h:=J.out;rwa [Ag A] at h
  subst hln;have e4:((c:Int) == 1)=false:=by rw[Al];omega
  go_wp2_with fail;refine BQ 1 ?_;rw[A0];go_wp2_with fail;refine p.out.mono ?_;rintro e w' ⟨rfl,rfl⟩;go_wp2_with fail;go_ret2;exact⟨_,rfl,z.out.1,z.out.2⟩
theorem SnapsAt.any0{w:World}{L L' B B' C C' a:Nat}{S:SnS}(h:SnapsAt w L B C a S)(d:S.l=[])(k:L'<=L)(n:B'<=B):SnapsAt w L' B' C' a S:=by
 obtain⟨m,j,e,o,g,h3,c,f,p⟩:=h.weaken n;exact⟨m,j,e,o,g,h3.base k,c,f,fun i b=>by rw[d] at b;simp at b⟩
theorem TreeAt.base{w:World}{L L' B t:Nat}{T:Tr}(h:TreeAt w L B t T)(a:L'<=L):TreeAt w L' B t T:=by
 obtain⟨mb,F,G,h⟩:=h;exact⟨mb,F,G,{ h with item:=fun i x b=>(h.item i x b).base a }⟩
theorem TreeAt.read{w w':World}{L B t P q:Nat}{c:Option Nat}{T:Tr}{X:List UInt8}(h:TreeAt w L B t T)(a:L<=B)(b:RC P q c w X)(d:Chg (fun k=>k=q) w w'):TreeAt w' L B t T:=by
 obtain⟨mb,F,G,h⟩:=h;exact⟨mb,F,G,h.alien a d (fun k hk e=>.inr (by subst e;exact a5u b))⟩
theorem b1G(a:Option Addr)(len cap:Nat)(w:World)(T:Tr)(S:SnS)(b c:Nat)(hg:TrGood c T)(hc:c<=60000)(Z:Shut0 T)(h:Sn0 S)(hn:b<=1099511627776)(hB:Bs w a len cap (stBytes T S b))(hl:len<=big):
  Calls Tryz.prog 277 #[.slice a len cap] w fun e w'=>∃s,e= .returned (.tuple #[.pointer (some ⟨s,0,none⟩),.int .i64 0])/\StAt w' w.heap.size w.heap.size w.heap.size s ⟨T,S,b,fun _=>none⟩/\Below w.heap.size w w':=by
 have al:=hB.1;obtain⟨N,hN⟩:=qnm ((a0p T).length);obtain⟨M,hM⟩:=qnm ((a05 S).length);have e0:stBytes T S b=be b 8 ++(be N 8 ++(a0p T ++a05 S)):=by unfold stBytes;rw[<-hN]
 have aq:N<=len:=by rw[<-al,e0];simp[<-hN];omega
 have HN:=qh (a80 a len cap _ w hB hl);rw[e0] at HN;have J:N<=big:=by omega
 have aw:N<=140737488355328:=by unfold big at J;omega
 have j:=qh (aI hg (aI Z (aI h (aI hN hM))));have an:=qh J;clear hg Z h hB hl al e0 hN hM aq J;go_enter Tryz.func277,Tryz.ntmps277;go_wp2_with fail;refine HN.out.mono ?_;rintro e w1 ⟨q,rb,rfl,O,hb1⟩;have HL:=qh (a6j b O (by omega));have l:=qh (aI hb1 O.rd.1);clear O hb1 HN;go_wp2_with fail;refine HL.out.mono ?_;rintro e w2 ⟨rfl,ai,ab⟩;have HY:=qh (a6j N ai (by omega));have hb2:Below w.heap.size w w2:=l.out.1.trans (ab.below l.out.1.size (fun k _ e=>by have:=l.out.2;omega));have ag:=qh hb2;clear ai ab hb2 HL;go_wp2_with fail;refine HY.out.mono ?_;rintro e w3 ⟨rfl,v,a0⟩;have hb3:Below w.heap.size w w3:=ag.out.trans (a0.below ag.out.size (fun k _ e=>by have:=l.out.2;omega));have af:=qh (aI hb3 v.qlt);have d:=qh (b0b v);have r:=qh (a7i (a0p T) (N:Int) v (by rw[j.out.2.2.2.1]));obtain⟨LN,B⟩:=qnm ((a0p T ++a05 S).length);rw[<-B] at d;have a5:N<=LN:=by rw[B,Af,j.out.2.2.2.1];omega
 have a6:LN<=140737488355328:=by have:=v.len;rw[<-B] at this;unfold big at this;omega
 have e1:¬(LN:Int)<(N:Int):=by omega
 have e2:IntKind.u64.wrap (LN:Int)=(LN:Int):=Bb _ (by omega);have e3:IntKind.i64.wrap (N:Int)=(N:Int):=Ak _ (by omega);clear v a0 hb3 HY B a5 a6;go_wp2_with fail;refine(b2r b w3 hn).mono ?_;rintro e w' ⟨rfl,rfl⟩;go_wp2_with fail;refine d.out.mono ?_;rintro e w' ⟨rfl,rfl⟩;go_wp2_with fail;refine r.out.mono ?_;rintro e w4 ⟨⟨v4,rfl,U⟩,R,ad⟩;obtain⟨a4,k4,rfl,I⟩:=U.bsn (n:=N) j.out.2.2.2.1.symm;have ak:=qh (b2X a4 N k4 w4 j.out.1 hc I an.out);have hb4:Below w.heap.size w w4:=af.out.1.trans (ad.below af.out.1.size (fun k _ e=>by have:=l.out.2;omega));have z:=qh (aI hb4 (aI I R));clear U I R ad hb4 r d e1 e2;go_wp2_with fail;refine ak.out.mono ?_;rintro e w5 ⟨t,rfl,K,hb5⟩;have V:=Commits.shut K j.out.1.ok hc hb5.size j.out.2.1;have a3:=qh (V w5 (Ab _ _));have F:=qh (aI K hb5);clear K hb5 V ak;go_wp2_with fail;refine a3.out.mono ?_;rintro e w6 ⟨t6,rfl,⟨av,F6,G6,ac⟩,hb6⟩;have a1:=qh (a4x ac j.out.1.ok hc);have x:=qh hb6;clear ac hb6 a3;go_wp2_with fail;refine a1.out.mono ?_;rintro e w7 ⟨v7,rfl,aa,hb7⟩;obtain⟨a7,k7,rfl,ah⟩:=aa.bsn (n:=N) j.out.2.2.2.1.symm;have u:Below w4.heap.size w4 w7:=F.out.2.trans ((x.out.trans (hb7.mono x.out.size)).mono F.out.2.size);have G:=qh (a6M a7 a4 N N k7 k4 _ _ w7 ah (z.out.2.1.below u));rw[AB rfl] at G;have L:=qh u;have X:=qh (show Below w5.heap.size w5 w7 from x.out.trans (hb7.mono x.out.size));clear aa ah u hb7 a1;go_wp2_with fail;refine G.out.mono ?_;rintro e w' ⟨rfl,rfl⟩;have y:=z.out.2.2.below L.out;have E:RC w.heap.size q rb w7 (a05 S ++[]):=by rw[By];exact y
 have d:=qh (b0b y);have r:=qh (a7i (a05 S) (M:Int) E (by rw[j.out.2.2.2.2]));rw[<-j.out.2.2.2.2] at d;have aj:=y.qlt;have ax:=qh aj;clear y E G aj;go_wp2_with fail;refine d.out.mono ?_;rintro e w' ⟨rfl,rfl⟩;go_wp2_with fail;refine r.out.mono ?_;rintro e w8 ⟨⟨v8,rfl,a2⟩,ao,m⟩;obtain⟨a8,k8,rfl,a9⟩:=a2.bsn (n:=M) j.out.2.2.2.2.symm;have ap:=qh (a9R a8 M k8 w8 S j.out.2.2.1 a9 0);have am:=qh m;clear a2 a9 ao m d r;go_wp2_with fail;refine ap.out.mono ?_;rintro e w9 ⟨sn,rfl,Q,f⟩;obtain⟨H,g⟩:=qnm (w9.alloc (.cells #[.pointer (some ⟨t,0,none⟩),.pointer (some ⟨sn,0,none⟩),.int .u64 (b:Int),.pointer none,.pointer none,.pointer none,.pointer none,.pointer none,.pointer none,.pointer none,.pointer none] TState));have A:=qba g;have Y:H.heap[w9.heap.size]? =some (.cells #[.pointer (some ⟨t,0,none⟩),.pointer (some ⟨sn,0,none⟩),.int .u64 (b:Int),.pointer none,.pointer none,.pointer none,.pointer none,.pointer none,.pointer none,.pointer none,.pointer none] TState (0,0)):=by rw[g];exact Ae w9 _
 have hb4:=z.out.1;have hb7:Below w.heap.size w w7:=hb4.trans (L.out.mono hb4.size);have m:=am.out;have p:Below w.heap.size w w8:=hb7.trans (m.below hb7.size (fun k _ e=>by have:=l.out.2;omega));have D:=f;have f:Below w.heap.size w w9:=p.trans (f.mono p.size);have HF:=qh (show StAt H w.heap.size w.heap.size w.heap.size w9.heap.size ⟨T,S,b,fun _=>none⟩/\Below w.heap.size w H from by
  have ar:=F.out.1.below X.out;have au:=ar.read (Aa _) (z.out.2.2.below L.out) m;have ae:=((au.below D).below A).base hb4.size;have W:=(Q.below (C:=0) (by omega) A).any0 (L':=w.heap.size) (B':=w.heap.size) (C':=w.heap.size) j.out.2.2.1.no p.size p.size;refine⟨⟨t,sn,fun _=>none,f.size,Y,ae.weaken hb4.size,W,fun _ _ _=>rfl,fun i o hi ho=>by simp at ho⟩,f.trans (A.mono f.size)⟩)
 obtain⟨s9,P⟩:=qnm w9.heap.size;rw[<-P] at HF;have HW:=qh (aI g P);clear g A Y hb4 hb7 m p D f Q P;go_wp2_with (rw[<-HW.out.1];rw[<-HW.out.2]);go_ret2;exact⟨_,rfl,HF.out.1,HF.out.2⟩
end
end Go.Proofs.YtbemfdcjieakdaaGreatDoor
