/- TreeMake; TreeFile; ML; AppL; Leaves; Build0. -/
import Derived.BigFrame
import Derived.Test.YtbemfdcjieakdaaGreatDoorK16
set_option maxRecDepth 100000
set_option maxHeartbeats 8000000
namespace Go.Proofs.YtbemfdcjieakdaaGreatDoor
section
open Go.RowKit Go.ChangeMaps Go.MapKept
def TM(w:World)(B k:Nat):Prop:=B<=k/\((∃C b,w.heap[k]? =some (.cells C a17 b))∨∃a c,w.heap[k]? =some (.map a c))
def TChg(B:Nat)(w w':World):Prop:=Chg (TM w B) w w'
theorem TChg.trans{B:Nat}{a b c:World}(h:TChg B a b)(k:TChg B b c):TChg B a c:=
 Chg.trans h k (fun i j hk=>by
  apply Classical.byContradiction;intro d;have e:=h.block i j d;obtain⟨g,f⟩:=hk;rw[e] at f;exact d ⟨g,f⟩)
theorem TChg.of_below{B:Nat}{w w':World}(h:Below w.heap.size w w'):TChg B w w':=Chg.of_below h _
theorem TChg.refl(B:Nat)(w:World):TChg B w w:=Chg.refl _ w
theorem TChg.below{B:Nat}{w w':World}(h:TChg B w w')(a:B<=w.heap.size):Below B w w':=Chg.below h a (fun _ _ hk=>hk.1)
theorem TChg.map{B b:Nat}{w w':World}(h:w.mapTurned w' b)(c:B<=b):TChg B w w':=by
 refine(a0E h).mono (fun i _ e=>?_);subst e;obtain⟨a,d,_,_,f,_⟩:=h;exact⟨c,.inr ⟨a,d,f⟩⟩
variable {w : World} {L B t mb c : Nat} {F G : Nat → Nat} {T : Tr}
theorem TreeIn.ltF(h:TreeIn w L B t mb F G T){i:Nat}{x:It}(a:getK i T=some x):F i<w.heap.size:=(h.item i x a).lt
theorem TreeIn.ltG(h:TreeIn w L B t mb F G T){i:Nat}{x:It}(a:getK i T=some x)(hk:x.n.kind=2):G i<w.heap.size:=(h.item i x a).ltn hk
theorem TreeIn.ne(h:TreeIn w L B t mb F G T):T.Pairwise (fun p q=>p.1≠q.1):=h.uniq.imp (fun {a b} c=>by omega)
theorem b53{a w:World}{id:Nat}{x:It}(b:TreeIn a L B t mb F G T)(z:Below a.heap.size a w)(s:ItAt w L a.heap.size a.heap.size (a.heap.size+1) x)(c:getK id T=none)(hid:id<=1000000)(p:T.length<=1000):
  ∃w',(Instr.mapUpdate 226 (.map (some mb)) (.int .i64 (id:Int)) (.pointer (some ⟨a.heap.size,0,none⟩))).run Tryz.prog w= .ok () w'/\
   TreeIn w' L B t mb (upd F id a.heap.size) (upd G id (a.heap.size+1)) (a1w numS id x T)/\w.mapTurned w' mb:=by
 have h:=b.below z;obtain⟨w',D,o,m⟩:=h.map.put numS a1m a04 (by rw[a1p];omega) (a9I id (by omega)) (.pointer (some ⟨a.heap.size,0,none⟩));have q:=a0E m;have n:=b.map.lt;refine⟨w',D,TreeIn.addItem h q ?_ (fun j y f=>?_) (fun hk=>⟨by omega,fun j y f i=>?_⟩) ?_,m⟩
 ·have g:=b.tge;have l:=b.lt;exact(s.chg q (fun k _ e C d=>by
   subst e;obtain⟨H,E,u,_⟩:=h.map;rw[u] at d;injection d with d;cases d) (by omega) (fun _=>by omega)).weaken (by omega)
 ·have:=b.ltF f;omega
 ·have:=b.ltG f i;omega
 ·have r:vals (ival F) T=vals (ival (upd F id a.heap.size)) T:=a48 (fun k v hk=>by
   unfold ival upd;rw[Ag (fun e=>by rw[e,c] at hk;cases hk)]) h.ne
  have A:Value.pointer (some ⟨a.heap.size,0,none⟩)=ival (upd F id a.heap.size) id x:=by unfold ival upd;rw[Ah rfl]
  rw[r,A,a3W] at o;exact o
theorem a6q{i id:Nat}{x:It}{s:List UInt8}(h:TreeIn w L B t mb F G T)(d:getK i T=some x)(hk:x.n.kind=2)(k:s.length<=1000000)(j:x.names.length<=100000):
  ∃w',(Instr.mapUpdate 231 (.map (some (G i))) (.string (a0c s)) (.int .i64 (id:Int))).run Tryz.prog w= .ok () w'/\
   TreeIn w' L B t mb F G (a01 T i ⟨x.n,x.b,a1w a0L s id x.names⟩)/\w.mapTurned w' (G i):=by
 obtain⟨_,_,f⟩:=h.dir d hk;obtain⟨w',g,a,c⟩:=f.put a0L a3f a1y (by rw[a1p];omega) (b8s s (by unfold maxLen;omega)) (.int .i64 (id:Int));have e:a1w a0L s (Value.int .i64 (id:Int)) (vals a3v x.names)=vals a3v (a1w a0L s id x.names):=a3W a0L a3v x.names s id;rw[e] at a;exact⟨w',g,h.setNames d hk (a0E c) a,c⟩
theorem b0t{b:Nat}{l:List (Nat×Value)}(h:MapAt numS Tryz.prog TI64 w b l)(n:Nat)(c:l.length=n):∀a,(Builtin.len_ #[226] a #[.map (some b)]).run Tryz.prog w= .ok (.int .i64 (n:Int)) w:=fun a=>by
 rw[<-c];exact h.len numS a04 a
def b8R(r:Nat×Nat×Tr):Value:=.tuple #[.int .i64 (r.1:Int),.int .i64 (r.2.1:Int)]
theorem b08(h:TreeIn w L B t mb F G T)(ok:TrOk c T)(hc:c<=60000)(a:Option Addr)(n cap:Nat)(p:List (List UInt8))(hS:Ss w a n cap p)(hm:∀s∈p,s.length<=1000000)(hn:n<=100000)(d:Nat)(o:d=1∨d=2):
  Calls Tryz.prog 81 #[.pointer (some ⟨t,0,none⟩),.slice a n cap,.int .i64 (d:Int)] w fun e w'=>e= .returned (b8R (a3D c T p d))/\(∃F' G',TreeIn w' L B t mb F' G' (a3D c T p d).2.2)/\TChg B w w':=by
 have HF:=qh (a3Z (w:=w.alloc (.cells #[.slice a n cap] 37)) w.heap.size a n cap p (by rw[a07];rfl) (hS.alloc _) hm);have HP:=qh (fun w' (H:Below w.heap.size w w')=>a2h (h.below H) ok hc a n cap p (hS.below H) hm hn);have HT:=qh (fun w' (H:Below w.heap.size w w')=>h.below H);have hE:=qh ((Ext.refl w).alloc (.cells #[.slice a n cap] 37));have P:=qh (aI ok (aI (a3i ok p) (show fineP p=0->(p.getLast?.getD []).length<=1000000 from fun hf=>by
  cases hl:p.getLast? with
  | none=>simp
  | some s=>exact hm s (BF hl))))
 have ao:a3D c T p d=if fineP p≠0 then(0,fineP p,T) else if(a02 T p).2≠0 then(0,(a02 T p).2,T) else match getK (a02 T p).1 T with
   | none=>(0,20,T)
   | some x=>if (getK (p.getLast?.getD []) x.names).isSome then(0,21,T) else if 64<=T.length then(0,4,T)
    else(a2p T (c+1) 1,0,a01 (a1w numS (a2p T (c+1) 1) (a0n (a2p T (c+1) 1) d) T) (a02 T p).1 ⟨x.n,x.b,a1w a0L (p.getLast?.getD []) (a2p T (c+1) 1) x.names⟩):=rfl
 generalize a3D c T p d=r at *;have Q:=qh ao;have aA:=h.tge;clear ao h ok hS hm;generalize fineP p=f at *;generalize a02 T p=q at *;generalize p.getLast?.getD []=s at *;have aB:∀W:World,True:=fun _=>trivial
 by_cases h0:f=0;rotate_left
 ·have h1:¬(f:Int)=0:=by omega
  have A:=qh (show r=(0,f,T) by rw[Q.out,Ah h0]);go_enter Tryz.func81,Tryz.ntmps81;go_wp2_with fail;refine HF.out.mono ?_;rintro e w1 ⟨rfl,H⟩;have u:=qh (hE.out.step H);go_wp2_with fail;go_ret2;exact⟨by rw[A.out];rfl,⟨F,G,by rw[A.out];exact HT.out _ u.out.1⟩,TChg.of_below u.out.1⟩
 subst h0;have a9:=qh o;obtain⟨q1,q2⟩:=q;by_cases h2:q2=0;rotate_left
 ·have h3:¬(q2:Int)=0:=by omega
  have A:=qh (show r=(0,q2,T) by rw[Q.out,Ag (by simp),Ah h2]);rw[a3h _ _ _ _ h2] at HP;clear o;rcases a9.out with rfl | rfl
  all_goals (
   go_enter Tryz.func81,Tryz.ntmps81;go_wp2_with fail;refine HF.out.mono ?_;rintro e w1 ⟨rfl,H⟩;have u:=qh (hE.out.step H);have S:=qh (HP.out w1 u.out.1);go_wp2_with fail;refine S.out.mono ?_;rintro e w2 ⟨rfl,hb2⟩;have C:=qh (u.out.step hb2);go_wp2_with fail;go_ret2;exact⟨by rw[A.out];rfl,⟨F,G,by rw[A.out];exact HT.out _ C.out.1⟩,TChg.of_below C.out.1⟩)
 subst h2;obtain⟨x,hx,a8,hq⟩:=P.out.2.1 rfl;clear hq;have ak:=P.out.2.2 rfl;simp only at hx;rw[a2O] at HP;have I:=qh (aI hx a8);have ag:r=if (getK s x.names).isSome then(0,21,T) else if 64<=T.length then(0,4,T)
    else(a2p T (c+1) 1,0,a01 (a1w numS (a2p T (c+1) 1) (a0n (a2p T (c+1) 1) d) T) q1 ⟨x.n,x.b,a1w a0L s (a2p T (c+1) 1) x.names⟩):=by
  rw[Q.out,Ag (by simp),Ag (by simp)];simp only[hx]
 have V:=qh ag;have ai:=qh ak;clear hx a8 ag Q ak;have az:∃kd:Int,Hid (kd=(d:Int)):=⟨_,qh rfl⟩
 clear az;have ay:((!((d:Int) == 1)) && (!((d:Int) == 2)))=false:=by rcases o with rfl | rfl <;>rfl
 go_enter Tryz.func81,Tryz.ntmps81;go_wp2_with fail;refine HF.out.mono ?_;rintro e w1 ⟨rfl,H⟩;have u:=qh (hE.out.step H);have S:=qh (HP.out w1 u.out.1);clear H;go_upto_region 4 with fail
 go_cut [26] (fun v wx=>v= .bool false/\wx=w1);case first=>
  rcases o with rfl | rfl
  ·go_wp2_with fail;go_meet;exact⟨rfl,rfl⟩
  ·go_wp2_with fail;go_meet;exact⟨rfl,rfl⟩
 case rest=>
  obtain⟨rfl,rfl⟩:=hcut;clear ay o;go_wp2_with fail;refine S.out.mono ?_;rintro e w2 ⟨rfl,hb2⟩;have C:=qh (u.out.step hb2);have j:=qh (HT.out _ C.out.1);have c0:=j.out.cell0;obtain⟨d1,d7,hM⟩:=j.out.dir I.out.1 I.out.2;have O:=a4O hM s ai.out;clear hb2 hM d1 HT HP S u HF hE;cases hg:getK s x.names with
  | some k=>
   rw[hg] at O;simp only[B8,Bp] at O;have A:=qh (show r=(0,21,T) by rw[V.out,hg];rfl);clear hg;go_wp2_with fail;go_ret2;exact⟨by rw[A.out];rfl,⟨F,G,by rw[A.out];exact j.out⟩,TChg.of_below C.out.1⟩
  | none=>
   rw[hg] at O;simp only[Ct,Bq] at O;obtain⟨U,N⟩:=qnm T.length;have aw:=b0t j.out.map U (by rw[a1p,N]);have a3:=qh N;have HG:=qh hg;clear N hg;by_cases R:64<=U
   ·have ac:(64:Int)<=(U:Int):=by omega
    have A:=qh (show r=(0,4,T) by rw[V.out,HG.out];simp only[Bq,AV,Cv];rw[Ah (by rw[<-a3.out];exact R)]);go_wp2_with fail;go_ret2;exact⟨by rw[A.out];rfl,⟨F,G,by rw[A.out];exact j.out⟩,TChg.of_below C.out.1⟩
   ·have ac:¬(64:Int)<=(U:Int):=by omega
    have A:=qh (show r=(a2p T (c+1) 1,0,a01 (a1w numS (a2p T (c+1) 1) (a0n (a2p T (c+1) 1) d) T) q1 ⟨x.n,x.b,a1w a0L s (a2p T (c+1) 1) x.names⟩) by
     rw[V.out,HG.out];simp only[Bq,AV,Cv];rw[Ag (by rw[<-a3.out];exact R)])
    have aq:=qh R;have au:=qh (a3k P.out.1 (c+1) 1 (by omega) (by omega));obtain⟨Y,E⟩:=qnm (a2p T (c+1) 1);rw[<-E] at A au;have aj:=qh E;clear V R E;go_wp2_with fail;go_loopw [14] (fun iv wr=>∃n i:Nat,iv= .int .i64 (i:Int)/\Y=a2p T n i/\i+n=c+2/\i<=c+1/\wr=w2) (fun iv _=>c+2 - (intOf iv).toNat);case atStart=>exact ⟨c+1,1,rfl,aj.out,by omega,by omega,rfl⟩
    case round=>
     obtain⟨n',i,rfl,l,M,af,rfl⟩:=hrel;cases n' with
     | zero=>omega
     | succ n'=>
      unfold a2p at l;cases z:getK i T with
      | some y=>
       rw[z] at l;simp only[Bp,BR] at l;have aC:=j.out.hit z (by omega);have D:i<=c:=(P.out.1.nd i y z).1;obtain⟨i2,J⟩:=qnm (i+1);have e3:IntKind.i64.wrap ((i:Int)+1)=(i2:Int):=by rw[Ak _ (by omega)];omega
       have HI:=qh (aI l (aI M (aI J D)));clear l M J af z D;go_wp2_with fail;go_roundw;case rel=>
        obtain⟨l,M,J,D⟩:=HI.out;exact⟨n',i2,rfl,by rw[J];exact l,by omega,by omega,trivial⟩
       case measure=>
        obtain⟨l,M,J,D⟩:=HI.out;show c+2 - (i2:Int).toNat<c+2 - (i:Int).toNat;omega
      | none=>
       rw[z] at l;simp only[Bq,AV,Cv] at l;subst l;have a2:=j.out.miss z (by omega);have g:=qh z;have ah:=qh (show Y<=1000000 by omega);have am:=qh (show T.length<=1000 by have:=a3.out;have:=aq.out;omega);have ax:=qh j.out.lt;have ap:=qh (j.out.below (Ab _ _).drew);have al:=qh j.out.mge;clear M af z aw O;go_upto_region 17 with fail
       refine a0h (fun i=>[0,1,2,3,4,5,6,7].contains i) (fun w'=>w'.cell? ⟨t,0,none⟩=some (Value.map (some mb))) (by kernel_rfl) ?_ (fun hHeld=>?_)
       ·go_keep
       refine qtk 0 62 ?_;refine qtk 1 63 ?_;refine qtk 2 64 ?_;refine qtk 3 65 ?_;refine qtk 4 66 ?_;refine qtk 5 67 ?_;refine qtk 6 68 ?_;refine qone 7 fun K hK=>?_
       go_simp;refine(a9m L Y d a9.out _).mono ?_;rintro e w2 ⟨rfl,ab,hb2,av⟩;have hHeld:((fun w'=>w'.cell? ⟨t,0,none⟩=some (Value.map (some mb)))) w2:=(hb2.cell (p:=⟨t,0,none⟩) ax.out).trans hHeld;obtain⟨w3,a5,a0,a7⟩:=b53 ap.out hb2 ab g.out ah.out am.out;go_wp2_with fail;refine hK.out _ _ (fun _=>hHeld) ?_;clear hK K;refine qone 8 fun K hK=>?_
       refine a3r (by rfl) (.tmp 65) (.tmp 66) (.tmp 69) 226 rfl _ _ _ (by rfl) (by rfl) (by rfl) a5 ?_;refine hK.out _ _ (fun h=>by simp at h) ?_;clear hK K;refine qdon ?_;have a1:getK q1 (a1w numS Y (a0n Y d) T)=some x:=by
        rw[a1v,Ag (fun e=>by rw[<-e,I.out.1] at g;cases g.out)];exact I.out.1
       have ar:=(P.out.1.nd q1 x I.out.1).2.2.2.2;have a6:upd F Y wr.drew.heap.size q1=F q1:=Ag (fun e=>by rw[<-e,I.out.1] at g;cases g.out);obtain⟨w4,ae,a4,Z⟩:=a6q (id:=Y) a0 a1 I.out.2 ai.out (by omega);obtain⟨_,d7,_⟩:=a0.dir a1 I.out.2;rw[a6] at d7;have an:upd G Y (wr.drew.heap.size+1) q1=G q1:=Ag (fun e=>by rw[<-e,I.out.1] at g;cases g.out);rw[an] at ae Z d7;have ad:=(j.out.item q1 x I.out.1)
       have aa:B<=G q1:=by obtain⟨_,v,m,_,_,k4,_⟩:=ad;exact(k4 I.out.2).2.1
       have X:=qh (aI a4 ((TChg.of_below (B:=B) C.out.1).trans ((TChg.of_below (B:=B) (Ab wr.heap.size wr).drew).trans ((TChg.of_below (B:=B) hb2).trans ((TChg.map a7 al.out).trans (TChg.map Z aa))))));clear a0 a7 a4 Z hHeld ab hb2 av a5 a1 ar a6 an ad aa a2;go_wp2_with (at_mapUpdate;refine a1b rfl _ _ _ _ (.inl rfl) _ _ _ rfl rfl rfl ae ?_);go_ret2;exact⟨by rw[A.out];rfl,⟨_,_,by rw[A.out];exact X.out.1⟩,X.out.2⟩
end
section
open Go.RowKit Go.ChangeMaps Go.MapKept
theorem a1Q{w w':World}{b:Array Oper}{rest:List Oper}{o:Oper}{a:Act}{Q:Exit->Act->World->Prop}(d:o.guard=none)(m x:Operand)(t k:TypeId)
  (l:o.op= .call { callee:=.builtin .delete,args:=#[m,x],argTypes:=#[t,k] }) (e c:Value) (g:a.eval m=e) (j:a.eval x=c) (i:∀f,(Builtin.delete_ #[t,k] f #[e,c]).run Tryz.prog w= .ok (.tuple #[]) w')
  (h:wpList Tryz.prog b Q rest (a.put o.dst (.tuple #[])) w'):wpList Tryz.prog b Q (o :: rest) a w:=by
 refine BX d fun K hK=>?_
 unfold Oper.wp;simp[execOp,l,resolve,invoke,builtin,g,j,i,Result.andThen];exact hK _ _ h
variable {w : World} {L B t mb c : Nat} {F G : Nat → Nat} {T : Tr}
def a42:Array Value:=#[.int .i64 0,.int .i64 0,.int .i64 0,.int .i64 0,.int .u64 0,.bool false]
theorem a3H(h:TreeIn w L B t mb F G T)(i:Nat)(x:It)(l:getK i T=some x)(I:i<=1000000):
  Calls Tryz.prog 157 #[.pointer (some ⟨t,0,none⟩),.int .i64 (i:Int)] w fun e w'=>e= .returned (.tuple #[.agg x.n.cells,.bool true])/\Below w.heap.size w w':=by
 obtain⟨g,b⟩:=qnm (w.alloc (.cells a42 39));have hb0:=qba b;have c:g.heap[w.heap.size]? =some (.cells a42 39 (0,0)):=by rw[b];exact Ae w _
 have d:=h.below hb0;have H:=d.cell0;have E:=d.hit2 l (by omega);obtain⟨_,v,m,q,_⟩:=d.item i x l;obtain⟨P,K,J,D,M,O,_,_⟩:=a0m q;have p:=qh b;have o:=qh (show Ext w.heap.size w g from⟨hb0,hb0.size⟩);have k:=a0a c 0;have g1:=a0a c 1;have g2:=a0a c 2;have g3:=a0a c 3;have g4:=a0a c 4;have g5:=a0a c 5;have a:∀j,g.frozen? ⟨w.heap.size,j,none⟩=false:=fun j=>by simp[World.frozen?,c]
 have A:=a 0;have u:=a 1;have z:=a 2;have r:=a 3;have y:=a 4;have s:=a 5;clear a q d h l hb0 c b;unfold Nd.cells;unfold a42 at *;simp only[qge] at k g1 g2 g3 g4 g5;go_enter Tryz.func157,Tryz.ntmps157;go_upto_region 1 with fail
 rw[<-p.out];obtain⟨N,f⟩:=qnm w.heap.size;rw[<-f] at k g1 g2 g3 g4 g5 A u z r y s o⊢;have C:=qh f;clear f p;go_wp2_with fail;refine Aj (v:=.tuple #[.agg #[.int .i64 x.n.id,.int .i64 x.n.kind,.int .i64 x.n.links,.int .i64 x.n.size,.int .u64 (x.n.til:Int),.bool x.n.closed],.bool true]) (by simp[results,Tryz.results157,go_sem,k,g1,g2,g3,g4,g5]) rfl ⟨rfl,?_⟩;rw[<-C.out];refine Below.setCell (Below.setCell (Below.setCell (Below.setCell (Below.setCell (Below.setCell o.out.1 ?_ _) ?_ _) ?_ _) ?_ _) ?_ _) ?_ _;all_goals exact Aa N
def fileT(T:Tr)(i:Nat):Nat:=match getK i T with | none=>20 | some x=>if x.n.kind=2 then 22 else 0
def a8n(F:Nat->Nat)(T:Tr)(i:Nat):Value:=if fileT T i≠0 then .tuple #[.pointer none,.int .i64 (fileT T i:Int)] else .tuple #[.pointer (some ⟨F i,0,none⟩),.int .i64 0]
theorem a2Q(h:TreeIn w L B t mb F G T)(f:TrOk c T)(i:Nat)(o:i<=1000000):
  Calls Tryz.prog 222 #[.pointer (some ⟨t,0,none⟩),.int .i64 (i:Int)] w fun e w'=>e= .returned (a8n F T i)/\w=w':=by
 have l:=h.cell0;cases a:getK i T with
 | none=>
  have b:a8n F T i= .tuple #[.pointer none,.int .i64 20]:=by simp[a8n,fileT,a]
  rw[b];have k:=h.miss2 a (by omega);clear h a b f;go_enter Tryz.func222,Tryz.ntmps222;go_wp2_with fail;go_ret2;exact⟨rfl,rfl⟩
 | some x=>
  have k:=h.hit2 a (by omega);obtain⟨_,v,m,g,_⟩:=h.item i x a;obtain⟨_,j,_⟩:=a0m g;by_cases hk:x.n.kind=2
  ·have b:a8n F T i= .tuple #[.pointer none,.int .i64 22]:=by simp[a8n,fileT,a,hk]
   rw[b];rw[hk] at j;clear h a b hk g f;go_enter Tryz.func222,Tryz.ntmps222;go_wp2_with fail;go_ret2;exact⟨rfl,rfl⟩
  ·have d:x.n.kind=1:=by rcases f.kind a with h | h;exact h;exact absurd h hk
   have b:a8n F T i= .tuple #[.pointer (some ⟨F i,0,none⟩),.int .i64 0]:=by simp[a8n,fileT,a,hk]
   rw[b];rw[d] at j;clear h a b hk g d f;go_enter Tryz.func222,Tryz.ntmps222;go_wp2_with fail;go_ret2;exact⟨rfl,rfl⟩
def a2f(T:Tr)(i:Nat):Tr:=match getK i T with | none=>T | some x=>if x.n.links=0/\x.n.closed=true then a1K i T else T
theorem a7a(h:TreeIn w L B t mb F G T)(i:Nat)(x:It)(g:getK i T=some x)(hid:x.n.id=(i:Int))(D:i<=1000000):
  Calls Tryz.prog 236 #[.pointer (some ⟨t,0,none⟩),.pointer (some ⟨F i,0,none⟩)] w fun e w'=>e= .returned (.tuple #[])/\TreeIn w' L B t mb F G (a2f T i)/\TChg B w w':=by
 have C:=h.cell0;obtain⟨_,v,m,q,_⟩:=h.item i x g;obtain⟨A,_,s,_,_,z,_⟩:=a0m q;rw[hid] at A;by_cases b:x.n.links=0
 ·by_cases j:x.n.closed=true
  ·have a:a2f T i=a1K i T:=by simp[a2f,g,b,j]
   rw[a];rw[b] at s;rw[j] at z;have o:=qh (h.below (Ab _ w).drew);have k:=qh h.mge;clear h g a b j q;go_enter Tryz.func236,Tryz.ntmps236;go_upto_region 1 with fail
   obtain⟨w2,c,f,d⟩:=o.out.map.del numS a1m a04 (a9I i (by omega)) 0;rw[a3X] at f;have u:=qh (aI (o.out.delItem (i:=i) (a0E d) f) (TChg.map d k.out));have c:∀y,(Builtin.delete_ #[226,3] y #[.map (some mb),.int .i64 (i:Int)]).run Tryz.prog w.drew= .ok (.tuple #[]) w2:=fun y=>c
   clear f d;refine a0K 9 (by kernel_rfl) (by kernel_rfl) rfl ?_;simp only[qtc,a3E];repeat still_step
   refine AK ?_;go_wp2_with (at_builtin;refine a1Q rfl _ _ _ _ rfl _ _ rfl rfl c ?_);go_end0;exact⟨rfl,u.out.1,(TChg.of_below (Ab _ w).drew).trans u.out.2⟩
  ·have a:a2f T i=T:=by simp[a2f,g,j]
   rw[a];have l:x.n.closed=false:=by simpa using j
   rw[b] at s;rw[l] at z;have r:=qh h;clear h g a b j q l;go_enter Tryz.func236,Tryz.ntmps236;go_wp2_with fail;go_end0;exact⟨rfl,r.out,TChg.refl _ _⟩
 ·have a:a2f T i=T:=by simp[a2f,g,b]
  rw[a];obtain⟨E,p⟩:=qnm x.n.links;rw[<-p] at b s;have r:=qh h;clear h g a q p;go_enter Tryz.func236,Tryz.ntmps236;go_wp2_with fail;go_end0;exact⟨rfl,r.out,TChg.refl _ _⟩
end
section
open Go.RowKit
abbrev TBS:TypeId:=30
abbrev TLL:TypeId:=50
def LL(w:World)(a:Option Addr)(d cap:Nat)(ls:List (List UInt8)):Prop:=
 ls.length=d/\d<=cap/\cap<=maxLen/\(d=0∨∃b off,a=some ⟨b,off,none⟩/\b<w.heap.size/\∀i (h:i<ls.length),∃e m c,w.cell? ⟨b,off+i,none⟩=some (.slice e m c)/\Bs w e m c ls[i])
theorem LL.nil(w:World):LL w none 0 0 []:=⟨rfl,Aa _,by simp[maxLen],.inl rfl⟩
theorem LL.below{w w':World}{a:Option Addr}{e cap:Nat}{ls:List (List UInt8)}(h:LL w a e cap ls)(f:Below w.heap.size w w'):LL w' a e cap ls:=by
 obtain⟨o,q,h3,d⟩:=h;refine⟨o,q,h3,?_⟩;rcases d with d | ⟨b,off,d,g,n⟩
 ·exact .inl d
 ·refine .inr ⟨b,off,d,Ai g f.size,fun i r=>?_⟩;obtain⟨j,m,c,l,k⟩:=n i r;exact⟨j,m,c,by rw[f.cell (p:=⟨b,off+i,none⟩) g];exact l,k.below f⟩
theorem LL.take{w:World}{a:Option Addr}{d cap:Nat}{ls:List (List UInt8)}(h:LL w a d cap ls){k:Nat}(hk:k<=d):LL w a k cap (ls.take k):=by
 obtain⟨p,q,h3,e⟩:=h;refine⟨by simp;omega,by omega,h3,?_⟩;rcases e with e | ⟨b,off,e,l,n⟩
 ·exact .inl (by omega)
 ·exact .inr ⟨b,off,e,l,fun i o=>by simp at o;obtain⟨f,m,c,j,g⟩:=n i (by omega);exact⟨f,m,c,j,by simpa using g⟩⟩
theorem LL.drop{w:World}{a:Option Addr}{d cap:Nat}{ls:List (List UInt8)}(h:LL w a d cap ls){k:Nat}(hk:k<=d):LL w (if cap=k then a else a.map (·.add k)) (d - k) (cap - k) (ls.drop k):=by
 obtain⟨r,s,h3,e⟩:=h;refine⟨by simp;omega,by omega,by omega,?_⟩;rcases e with e | ⟨b,off,e,n,o⟩
 ·exact .inl (by omega)
 ·by_cases p:cap=k
  ·exact .inl (by omega)
  ·rw[Ag p,e];refine .inr ⟨b,off+k,?_,n,fun i q=>by simp at q;obtain⟨g,m,c,l,j⟩:=o (k+i) (by omega);exact⟨g,m,c,by rw[Nat.add_assoc];exact l,by simpa using j⟩⟩;by_cases f:k=0 <;>simp [Addr.add,f]
theorem LL.at{w:World}{a:Option Addr}{d cap:Nat}{ls:List (List UInt8)}(h:LL w a d cap ls)(n:0<d):∃b off,a=some ⟨b,off,none⟩/\b<w.heap.size/\∀i,i<d->∃e m c,w.cell? ⟨b,off+i,none⟩=some (.slice e m c)/\Bs w e m c (ls.getD i []):=by
 obtain⟨o,_,_,f⟩:=h;rcases f with f | ⟨b,off,f,k,l⟩
 ·omega
 ·refine⟨b,off,f,k,fun i p=>?_⟩;obtain⟨e,m,c,j,g⟩:=l i (by omega);exact⟨e,m,c,j,by rw[List.getD_eq_getElem?_getD,List.getElem?_eq_getElem (by omega)];exact g⟩
def Rws(w:World)(o:Option Nat)(b:List Value)(ls:List (List UInt8)):Prop:=
 b.length=ls.length/\∀i (h:i<ls.length),∃a m c,b[i]? =some (.slice a m c)/\Bs w a m c ls[i]/\(0<m->∀d,a=some d->o≠some d.block)
def OwnL(w:World)(B:Nat)(v:Value)(ls:List (List UInt8)):Prop:=∃a:List Value,w.ownsRow B TBS 1 v ls.length a/\Rws w v.ownBlock a ls
theorem OwnL.nil(w:World)(B:Nat):OwnL w B (.slice none 0 0) []:=⟨[],A6 w B TBS 1,rfl,fun i h=>by simp at h⟩
theorem Bs.blk' {w:World}{a:Option Addr}{c cap:Nat}{xs:List UInt8}(h:Bs w a c cap xs)(i:0<c)(f:Addr)(d:a=some f):f.block<w.heap.size:=by
 rcases h.2.2.2 with j | ⟨b,o,e,g,_⟩
 ·omega
 ·rw[e] at d;injection d with d;rw[<-d];exact g
theorem Bs.grown{w w':World}{row:Option Nat}{a:Option Addr}{c cap:Nat}{xs:List UInt8}(h:Bs w a c cap xs)(j:w.grownBy w' row)(l:0<c->∀f,a=some f->row≠some f.block):Bs w' a c cap xs:=by
 obtain⟨n,o,h3,d⟩:=h;refine⟨n,o,h3,?_⟩;rcases d with d | ⟨b,off,rfl,g,m⟩
 ·exact .inl d
 ·by_cases k:c=0
  ·exact .inl k
  ·refine .inr ⟨b,off,rfl,Ai g j.size,fun i p=>?_⟩;rw[<-m i p];exact Cc (a:=⟨b,off+i,none⟩) (j.block b g (fun e=>l (by omega) _ rfl e.symm))
theorem OwnL.below{w w':World}{B:Nat}{v:Value}{ls:List (List UInt8)}(h:OwnL w B v ls)(k:Below w.heap.size w w'):OwnL w' B v ls:=by
 obtain⟨n,l,p,h3⟩:=h;refine⟨n,⟨l.1,?_⟩,p,fun i q=>?_⟩
 ·rcases l.2 with b | ⟨g,cap,f,d,e,j,o⟩
  ·exact .inl b
  ·exact .inr ⟨g,cap,f,d,e,(k.block g (Array.getElem?_eq_some_iff.1 j).1).trans j,o⟩
 ·obtain⟨a,m,c,b,d,e⟩:=h3 i q;exact⟨a,m,c,b,d.below k,e⟩
theorem OwnL.lt{w:World}{B:Nat}{v:Value}{ls:List (List UInt8)}(h:OwnL w B v ls):∀k,v.ownBlock=some k->B<=k/\k<w.heap.size:=by
 obtain⟨b,a,_⟩:=h;exact A8 a
theorem OwnL.ll{w:World}{B n:Nat}{v:Value}{ls:List (List UInt8)}(h:OwnL w B v ls)(l:ls.length=n):∃a cap,v= .slice a n cap/\LL w a n cap ls:=by
 subst l;obtain⟨s,d,u,h3⟩:=h;rcases d.2 with⟨rfl,b⟩ | ⟨g,cap,p,rfl,t,j,f,q,e,o⟩
 ·obtain rfl:=Ax.1 b;exact⟨none,0,rfl,LL.nil w⟩
 ·refine⟨some ⟨g,0,none⟩,cap,rfl,rfl,f,q,.inr ⟨g,0,rfl,(Array.getElem?_eq_some_iff.1 j).1,fun i r=>?_⟩⟩;obtain⟨a,m,c,b,k,_⟩:=h3 i r;refine⟨a,m,c,?_,k⟩;rw[AD,<-b];exact A1 (size:=1) d i (by omega)
theorem OwnL.one(w:World){a:Option Addr}{m c:Nat}{xs:List UInt8}(h:Bs w a m c xs):OwnL (w.alloc (.cells #[.slice a m c] TBS)) w.heap.size (.slice (some ⟨w.heap.size,0,none⟩) 1 1) [xs]:=by
 refine⟨[.slice a m c],?_,rfl,fun i g=>?_⟩
 ·exact World.ownsRow_lit w #[.slice a m c] 1 (Aa _) (by simp[maxLen]) rfl
 ·match i,g with
  | 0,_=>
   refine⟨a,m,c,rfl,h.alloc _,fun d f b e=>?_⟩;have:=h.blk' d f b;simp[Value.ownBlock] at e;omega
theorem LL.one(w:World){a:Option Addr}{m c:Nat}{xs:List UInt8}(h:Bs w a m c xs):LL (w.alloc (.cells #[.slice a m c] TBS)) (some ⟨w.heap.size,0,none⟩) 1 1 [xs]:=by
 obtain⟨g,j,e,f⟩:=(OwnL.one w h).ll (n:=1) rfl;injection e with b i d
 subst b d;exact f
theorem b8J:(Tryz.prog.info? TBS).map (fun i=>(i.zero,i.size,i.bytes))=some (some (.slice none 0 0),1,24):=by kernel_rfl
theorem b0y {a :Option TypeInfo}{z:Value}{s b:Nat}(h:a.map (fun i=>(i.zero,i.size,i.bytes))=some (some z,s,b)):∃i,a =some i/\i.zero=some z/\i.size=s/\i.bytes=b:=by
 cases a with
 | none=>cases h
 | some i=>simp at h;exact⟨i,rfl,h.1,h.2.1,h.2.2⟩
theorem a76{w:World}(B:Nat)(v:Value)(ls:List (List UInt8))(h:OwnL w B v ls)(y:Option Addr)(m c:Nat)(ys:List (List UInt8))(z:LL w y m c ys)
  (I:∀b off,y=some ⟨b,off,none⟩->∀i,i<m->∀l d k,w.cell? ⟨b,off+i,none⟩=some (.slice l d k)->0<d->∀x,l=some x->v.ownBlock≠some x.block) (N:TypeId) (a0:ls.length+m<=1000000) (q:B<=w.heap.size):
  ∃s w',(Builtin.append_ #[50,50] N #[v,.slice y m c]).run Tryz.prog w= .ok s w'/\OwnL w' B s (ls ++ys)/\w.grownBy w' v.ownBlock/\(s.ownBlock=v.ownBlock∨s.ownBlock=some w.heap.size):=by
 obtain⟨i,D,M,K,Q⟩:=b0y b8J;obtain⟨U,C,O,h3⟩:=h;by_cases hm:m=0
 ·subst hm;obtain rfl:=Ax.1 z.1;refine⟨v,w,?_,by rw[By];exact⟨U,C,O,h3⟩,⟨rfl,rfl,rfl,Aa _,fun _ _ _=>rfl⟩,.inl rfl⟩;cases y with
  | none=>exact a1a (P:=Tryz.prog) (w:=w) B TLL N TBS i 1 Tryz.underlying50 D v _ c _ C
  | some y=>
   rcases C.2 with⟨rfl,Y⟩ | ⟨g,cap,a2,rfl,h6,T,J,_⟩
   ·simp[Builtin.append_,run_underlying Tryz.underlying50,sizeOf,typeInfo,D,Builtin.lenOf,Builtin.firstCells,loadCells,loadCellsFrom]
   ·simp[Builtin.append_,run_underlying Tryz.underlying50,sizeOf,typeInfo,D,Builtin.lenOf,Builtin.firstCells,storeCells,J,loadCells,loadCellsFrom]
 ·obtain⟨b,off,rfl,a1,hc⟩:=z.at (by omega);have F:∀j,j<m->∃u:Value,w.cell? ⟨b,off+j,none⟩=some u/\u.oneCell'=true/\∃l d k,u= .slice l d k/\Bs w l d k (ys.getD j []):=fun j n=>by
   obtain⟨l,d,k,T,J⟩:=hc j n;exact⟨_,T,rfl,l,d,k,rfl,J⟩
  obtain⟨f,H⟩:=Deep.choose_lt F;obtain⟨s,w',r,k1,W,_,t⟩:=run_append_own_at (P:=Tryz.prog) w B TLL N TBS i (.slice none 0 0) 1 24 Tryz.underlying50 D M K Q rfl (by decide) v ls.length U C ⟨b,off,none⟩ m c ((List.range m).map f) (by simp) (fun j u R=>by
   obtain⟨n,rfl⟩:=AG.1 R;simp at n;have he:(⟨b,off,none⟩:Addr).add j=⟨b,off+j,none⟩:=by by_cases G:j=0 <;>simp [Addr.add,G]
   rw[he];simpa using(H j n).1) (fun u R=>by
   obtain⟨j,n,rfl⟩:=AX.1 R;exact(H j (by simpa using n)).2.1) (by unfold maxLen;omega) (by omega) q
  refine⟨s,w',r,⟨_,by rw[Af,z.1];exact k1,by simp[O,z.1],fun j n=>?_⟩,W,t⟩;have o:∀(a:Option Addr) (d k:Nat) (S:List UInt8),Bs w a d k S->(0<d->∀x,a=some x->v.ownBlock≠some x.block)->Bs w' a d k S/\(0<d->∀x,a=some x->s.ownBlock≠some x.block):=fun a d k S hz X=>
   ⟨hz.grown W X,fun V x F=>by
    rcases t with t | t
    ·rw[t];exact X V x F
    ·rw[t];intro e;injection e with e;have:=hz.blk' V x F;omega⟩
  by_cases A:j<ls.length
  ·obtain⟨a,d,k,Y,h5,h6⟩:=h3 j A;obtain⟨E,L⟩:=o _ _ _ _ h5 h6;exact⟨a,d,k,by rw[A7 (by omega)];exact Y,by rw[BI A];exact E,L⟩
  ·rw[Af] at n;have p:j - ls.length<m:=by have:=z.1;omega
   obtain⟨p1,_,l,d,k,Z,p4⟩:=H (j - ls.length) p;rw[Z] at p1;obtain⟨E,L⟩:=o _ _ _ _ p4 (I b off rfl (j - ls.length) p l d k p1);refine⟨l,d,k,?_,?_,L⟩
   ·rw[AM (by omega),O,Cq,List.getElem?_range p,<-Z];rfl
   ·rw[Cd (by omega)];rw[List.getD_eq_getElem?_getD,List.getElem?_eq_getElem (by omega)] at E;exact E
theorem a6V{w:World}(B:Nat)(v:Value)(ls:List (List UInt8))(h:OwnL w B v ls)(a:Option Addr)(m c:Nat)(ys:List UInt8)(q:Bs w a m c ys)(j:0<m->∀x,a=some x->v.ownBlock≠some x.block)(l:TypeId)(d:ls.length+1<=1000000)(k:B<=w.heap.size):
  ∃f w',(Builtin.append_ #[50,50] l #[v,.slice (some ⟨w.heap.size,0,none⟩) 1 1]).run Tryz.prog (w.alloc (.cells #[.slice a m c] TBS))= .ok f w'/\OwnL w' B f (ls ++[ys])/\(w.alloc (.cells #[.slice a m c] TBS)).grownBy w' v.ownBlock:=by
 obtain⟨f,w',o,u,h3,_⟩:=a76 B v ls (h.below ((Ab _ _).alloc (Aa _) (.cells #[.slice a m c] TBS))) _ 1 1 [ys] (LL.one w q) (fun b off e i C D A E g p x y=>by
  injection e with e;injection e with n s
  obtain rfl:i=0:=by omega
  subst n s;rw[Az] at g;injection g with g;injection g with t r z
  subst t r;exact j p x y) l d (by simp;omega)
 exact⟨f,w',o,u,h3⟩
theorem a4i{w:World}{b:Array Oper}{rest:List Oper}{o:Oper}{a:Act}{Q:Exit->Act->World->Prop}(i:Region.wanted o (yielded b a.tmps)=true)(s x:Operand)
  (t:o.op= .call { callee:=.builtin .append,args:=#[s,x],argTypes:=#[50,50] }) (r:a.eval x= .slice (some ⟨w.heap.size,0,none⟩) 1 1)
  (B:Nat) (v:Value) (ls:List (List UInt8)) (p:a.eval s=v) (h:OwnL w B v ls) (e:Option Addr) (m c:Nat) (ys:List UInt8) (k:Bs w e m c ys) (j:0<m->∀x,e=some x->v.ownBlock≠some x.block)
  (f:ls.length+1<=1000000) (d:B<=w.heap.size)
  (l:∀g w',OwnL w' B g (ls ++[ys])->(w.alloc (.cells #[.slice e m c] TBS)).grownBy w' v.ownBlock->wpList Tryz.prog b Q rest (a.put o.dst g) w'):wpList Tryz.prog b Q (o :: rest) a (w.alloc (.cells #[.slice e m c] TBS)):=by
 refine BigFrame.wpList_want i fun _ hK=>?_
 obtain⟨g,w',n,q,h3⟩:=a6V B v ls h e m c ys k j o.type f d;unfold Oper.wp execOp;simp only[t,resolve,invoke,builtin,Cs,Cr,BJ,BO,Au,Bf,p,r,n];exact hK _ _ (l g w' q h3)
def Rc.bytes(r:Rc):List UInt8:=a1i r.k.toNat r.q r.ys
theorem OwnL.apart2{w w2:World}{B0:Nat}{v:Value}{ls:List (List UInt8)}{a:Option Addr}{m c N:Nat}{ys:List UInt8}(_hO:OwnL w B0 v ls)(f:Own w2 N (.slice a m c) ys)(hv:∀k,v.ownBlock=some k->k<N):0<m->∀x,a=some x->v.ownBlock≠some x.block:=fun _ x d e=>by
 rcases f.parts with⟨b,_⟩ | ⟨g,cap,b,h,_⟩
 ·injection b with b;rw[b] at d;cases d
 ·injection b with b;rw[b] at d;injection d with d;subst d
  have:=hv _ e;simp at this;omega
theorem a7v(a:Option Addr)(len cap:Nat)(ls:List Rc)(w:World)(V:Recs w a len cap ls)(hl:len<=1000)(E:∀r∈ls,a1Z r.k r.q r.m):
  Calls Tryz.prog 177 #[.slice a len cap] w fun e w'=>∃v,e= .returned v/\OwnL w' w.heap.size v (ls.map Rc.bytes)/\Below w.heap.size w w':=by
 obtain⟨Y,go,X⟩:=V.at;have HL:=qh V.1;have a1:=qh E;clear V E;go_enter Tryz.func177,Tryz.ntmps177;go_wp2_with fail;go_loopw [3,10] (fun a0 i wr=>∃k:Nat,k<=len/\i= .int .i64 (k:Int)/\OwnL wr w.heap.size a0 ((ls.take k).map Rc.bytes)/\Ext w.heap.size w wr) (fun _ i _=>len - (intOf i).toNat);case atStart=>exact ⟨0,by omega,rfl,OwnL.nil _ _,Ext.refl w⟩
 case round=>
  obtain⟨k,hk,rfl,F,o⟩:=hrel;by_cases D:k<len
  ·obtain⟨rfl,u,c⟩:=X.out (by omega);have b:k<ls.length:=by rw[HL.out];exact D
   have Z:=c k b;have f:=a1.out _ (AE b);have x:=BH b;clear c;generalize ls[k]'b=r at Z f x;have a4:=qh Z.2.2.2.2;obtain⟨P,z,O,L,d,y⟩:=r;obtain⟨l,t,s,A,M⟩:=Z;simp only at l t s A M f;have c0:=(o.1.cell (p:=⟨Y,go+k * 3,none⟩) u).trans l;have c1:=(o.1.cell (p:=⟨Y,go+k * 3+1,none⟩) u).trans t;have c2:=(o.1.cell (p:=⟨Y,go+k * 3+2,none⟩) u).trans s;have I:=(M.below o.1).alloc (.cells #[.int .i64 P,.int .u64 (z:Int),.slice O L d] 89);obtain⟨K,rfl⟩:∃K:Nat,P=(K:Int):=⟨P.toNat,by have:=f.2.2;omega⟩
   have a5:=a2b K z y (by have:=M.1;have:=f.2.1;omega);have HN:=qh (b3t K z O L d y _ I f);have e1:(0:Int)<=(k:Int):=by omega
   have e2:(k:Int)<(len:Int):=by omega
   obtain⟨T,g⟩:=qnm (k+1);have e3:IntKind.i64.wrap ((k:Int)+1)=(T:Int):=by rw[Ak _ (by omega)];omega
   have HT:=qh x;have HK:=qh g;have B:=qh (o.alloc (.cells #[.int .i64 (K:Int),.int .u64 (z:Int),.slice O L d] 89));have h:∀q,u3.ownBlock=some q->w.heap.size<=q/\q<wr.heap.size:=F.lt
   have J:=qh (F.below ((Ab _ wr).alloc (Aa _) (.cells #[.int .i64 (K:Int),.int .u64 (z:Int),.slice O L d] 89)));have j:((ls.take k).map Rc.bytes).length<=1000:=by simp;omega
   have G:=qh h;have a3:=qh j;clear l t s M A b x g o F I f h j hk;go_wp2_with fail;refine HN.out.mono ?_;rintro e w2 ⟨v2,rfl,n,hb2⟩;obtain⟨N,hN⟩:=qnm ((a1i K z y).length);obtain⟨a2,W,rfl,Q⟩:=n.bsn hN.symm;have H:=J.out.below hb2;have C:=qh (B.out.step hb2);have S:=OwnL.apart2 H n (fun q A=>by have:=(G.out q A).2;simp;omega);clear hb2 n J B c0 c1 c2 hN;go_wp2_with (at_builtin;(refine a4i (by rfl) _ _ rfl rfl w.heap.size u3 ((ls.take k).map Rc.bytes) rfl H a2 N W _ Q S (by have:=a3.out;omega) C.out.2 ?_;intro v3 w4 U R));go_roundw;case rel=>
    have b:=HK.out;refine⟨T,by omega,rfl,?_,Ext.grown (C.out.alloc _) R (fun q A=>(G.out q A).1)⟩;rw[b,<-HT.out,AZ];exact U
   case measure=>
    have b:=HK.out;show len - (T:Int).toNat<len - (k:Int).toNat;omega
  ·obtain rfl:k=len:=by omega
   clear D;rw[Am (by rw[HL.out];exact Aa _)] at F;go_wp2_with fail;go_ret;exact⟨_,rfl,F,o.1⟩
theorem a8i(c:Nat)(w:World)(b:c<4294967296):
  Calls Tryz.prog 179 #[.int .u32 (c:Int)] w fun e w'=>∃v,e= .returned v/\Own w' w.heap.size v (be c 4)/\Below w.heap.size w w':=by
 have a:be c 4=[UInt8.ofNat (c / 16777216),UInt8.ofNat (c / 65536),UInt8.ofNat (c / 256),UInt8.ofNat c]:=by simp[be]
 rw[a];clear a;go_enter Tryz.func179,Tryz.ntmps179;go_wp2;go_ret;refine⟨_,rfl,Own.of_row (Row.made w _ 4 4 _ rfl rfl (by omega) (by simp[maxLen]) ?_) (Aa _),((Ext.refl w).alloc _).1⟩;simp[bv,UInt8.toNat_ofNat'];omega
def a3F(ls:List Rc):List UInt8:=(ls.map Rc.bytes).flatten
def a2g(i f c n:Nat)(P R:List UInt8):List UInt8:=be i 2 ++(be f 8 ++(be c 2 ++(be n 2 ++(P ++R))))
def segBytes(i f:Nat)(P:List UInt8)(ls:List Rc):List UInt8:=
 a2g i f ls.length (a3F ls).length P (a2P (ls.map Rc.bytes)) ++(be (crcMore 0 (a2g i f ls.length (a3F ls).length P (a2P (ls.map Rc.bytes)))) 4 ++(a3F ls ++List.replicate (942 - (a3F ls).length) 0))
theorem a6B:∀(ls:List Rc) (left:Nat),(∀r∈ls,r.ys.length=r.m)->fitsN left ls=ls.length->(∀r∈ls,a1Z r.k r.q r.m)/\(a3F ls).length<=left
 | [],_,_,_=>⟨fun _ h=>by simp at h,by simp[a3F]⟩
 | r :: rs,left,hy,h=>by
  rw[a3l] at h;by_cases b:a1Z r.k r.q r.m/\15+r.m<=left
  ·rw[Ah b,AA] at h;obtain⟨f,d⟩:=a6B rs (left - (15+r.m)) (fun x a=>hy x (AI _ a)) (by omega);have c:=hy r (AL ..);have e:r.bytes.length=15+r.m:=by
    unfold Rc.bytes;rw[a2b _ _ _ (by have:=b.1.2.1;omega),c]
   refine⟨fun x a=>?_,?_⟩
   ·rcases AP.1 a with rfl | a
    ·exact b.1
    ·exact f x a
   ·unfold a3F at d⊢;rw[Au,Bg,Af,e];omega
  ·rw[Ag b] at h;simp at h
theorem Recs.ys_len{w:World}{a:Option Addr}{c cap:Nat}{ls:List Rc}(h:Recs w a c cap ls):∀r∈ls,r.ys.length=r.m:=fun r d=>by
 obtain⟨i,e,rfl⟩:=Bi d;rcases h.2.2.2 with f | ⟨b,off,_,_,h3⟩
 ·have:=h.1;omega
 ·exact(h3 i e).2.2.2.2.1
end
end Go.Proofs.YtbemfdcjieakdaaGreatDoor
