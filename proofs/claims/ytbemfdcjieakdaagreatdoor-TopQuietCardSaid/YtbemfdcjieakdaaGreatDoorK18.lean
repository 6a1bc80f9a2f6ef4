/- MerkA; PathIn; MapClone; Concat; TreeSeal. -/
import Derived.Lib.AppendZeros
import Derived.Lib.AppendZerosOnto
import Derived.RangeFuncRecord
import Derived.Shelf.SlMaps.Clone
import Derived.Test.YtbemfdcjieakdaaGreatDoorK17
set_option maxRecDepth 100000
set_option maxHeartbeats 8000000
namespace Go.Proofs.YtbemfdcjieakdaaGreatDoor
section
open Go.RowKit
theorem b5J(n:Nat)(w:World)(h:n<=1000000):
  Calls Tryz.prog 246 #[.int .i64 (n:Int)] w fun e w'=>e= .returned (.int .i64 ((mpart n:Nat):Int))/\w=w':=by
 go_enter Tryz.func246,Tryz.ntmps246;go_wp2_with fail;go_loopw [3] (fun i wr=>∃k:Nat,i= .int .i64 (k:Int)/\0<k/\k<=1000000/\a5H n k=mpart n/\w=wr) (fun i _=>n - (intOf i).toNat);case atStart=>exact ⟨1,rfl,by omega,by omega,rfl,rfl⟩
 case round=>
  obtain⟨k,rfl,d,hk,c,rfl⟩:=hrel;have j:IntKind.i64.wrap ((n:Int) - (k:Int))=(n:Int) - (k:Int):=Ak _ (by omega);have l:IntKind.i64.wrap ((k:Int)+(k:Int))=(k:Int)+(k:Int):=Ak _ (by omega);by_cases a:2 * k<n
  ·have b:a5H n (2 * k)=mpart n:=by rw[<-b02 d a];exact c
   have f:=qh b;clear c b;have g:(k:Int)<(n:Int) - (k:Int):=by omega
   go_wp2_with fail;go_roundw;case rel=>exact ⟨2 * k,by go_num,by omega,by omega,f.out,trivial⟩
   case measure=>simp [intOf];omega
  ·rw[a7m a] at c;subst c;have g:¬(mpart n:Int)<(n:Int) - (mpart n:Int):=by omega
   go_wp2_with fail;go_ret;exact⟨rfl,rfl⟩
theorem b0W(n:Nat):∀(a:Option Addr) (cap:Nat) (ls:List (List UInt8)) (w:World),LL w a n cap ls->(∀x∈ls,x.length<=1000)->n<=1000->
  Calls Tryz.prog 178 #[.slice a n cap] w fun e w'=>∃v,e= .returned v/\Own w' w.heap.size v (a2P ls)/\Below w.heap.size w w':=by
 induction n using Nat.strongRecOn with
 | _ n M=>
 intro a cap ls w j Q hn;have N:=qh M;clear M;have z:=qh Q;clear Q;by_cases T:n=0
 ·subst T;have I:=j.1;obtain rfl:=Ax.1 I;rw[b3W];clear I j;go_enter Tryz.func178,Tryz.ntmps178;go_wp2_with fail;refine(a2I none 0 0 [] w (Bs.nil w) (by omega)).mono ?_;rintro e w1 ⟨v,rfl,y,f⟩;go_wp2_with fail;go_ret;exact⟨_,rfl,y,f⟩
 ·by_cases S:n=1
  ·subst S;obtain⟨b,off,rfl,f,P⟩:=j.at (by omega);obtain⟨L,m,c,D,q⟩:=P 0 (by omega);clear P;obtain⟨x,rfl⟩:=List.length_eq_one_iff.1 j.1;rw[b3V];have q:Bs w L m c x:=q;have a0:m<=1000:=by rw[<-q.1];exact z.out x (by simp)
   have HB:=qh q;rw[BT] at D;clear q j;go_enter Tryz.func178,Tryz.ntmps178;go_wp2_with fail;refine(a9U L m c x w HB.out (by omega)).mono ?_;rintro e w1 ⟨v,rfl,y,f⟩;go_wp2_with fail;go_ret;exact⟨_,rfl,y,f⟩
  ·have J:=a5g (n:=n) (by omega);have r:=j.1;have O:=j.2.1;have R:Hid (a2P ls=sha (1 :: (a2P (ls.take (mpart n)) ++a2P (ls.drop (mpart n))))):=qh (by rw[b13 (by omega),r]);have E:∀x∈ls.take (mpart n),x.length<=1000:=fun x h=>z.out x (Bv h)
   have u:∀x∈ls.drop (mpart n),x.length<=1000:=fun x h=>z.out x (List.mem_of_mem_drop h)
   have t:=j.take (k:=mpart n) (by omega);have s:=j.drop (k:=mpart n) (by omega);obtain⟨ad,A⟩:∃ad,(if cap=mpart n then a else a.map (·.add (mpart n)))=ad:=⟨_,rfl⟩
   rw[A] at s;have U:=qh t;have Y:=qh s;have H:=qh J;have e1:(0:Int)<=((mpart n:Nat):Int):=by omega
   have e2:((mpart n:Nat):Int)<=(n:Int):=by omega
   have e3:((mpart n:Nat):Int)<=(cap:Int):=by omega
   have e4:mpart n<=n:=by omega
   have e5:mpart n<=cap:=by omega
   have g0:((n:Int) == 0)=false:=by rw[Al];omega
   have g1:((n:Int) == 1)=false:=by rw[Al];omega
   clear r t s J j;have G:=qh (fun W=>b5J n W (by omega));skip;go_enter Tryz.func178,Tryz.ntmps178;go_wp2_with fail;refine(G.out _).mono ?_;rintro e wq ⟨rfl,rfl⟩;go_upto_region 4 with fail
   obtain⟨wd,l⟩:=qnm w.drew;have f:Below w.heap.size w wd:=by rw[l];exact(Ab _ _).drew
   clear f;refine a2J (by kernel_rfl) (fun hHeld=>?_);rw[<-l] at hHeld⊢;have g:=qh (show Below w.heap.size w wd by rw[l];exact(Ab _ _).drew);have t:=U.out.below g.out;have s:=Y.out.below g.out;clear l;refine qth 0 10 ?_;refine qth 1 11 ?_;refine qth 2 12 ?_;refine qth 4 14 ?_;refine qth 5 15 ?_;refine qth 6 16 ?_;refine qrd 3 fun K hK=>?_
   go_simp;refine(N.out (mpart n) H.out.1 _ _ _ _ (t.below hHeld) E (by omega)).mono ?_;rintro e Z ⟨v1,rfl,C,f⟩;have d:=HB.trans hHeld f;obtain⟨a1,c1,rfl,i⟩:=C.bsn (n:=32) (a1H _);go_wp2_with fail;refine hK.out _ _ d (fun _=>?_);clear hK hHeld K;have hHeld:=d;clear f d;refine qrd 7 fun K hK=>?_
   go_simp;refine(N.out (n - mpart n) (by have:=H.out;omega) _ _ _ _ (s.below hHeld) u (by omega)).mono ?_;rintro e X ⟨v2,rfl,F,f⟩;have d:=HB.trans hHeld f;have i:=i.below f;obtain⟨a2,c2,rfl,o⟩:=F.bsn (n:=32) (a1H _);go_wp2_with fail;refine hK.out _ _ d (fun _=>?_);clear hK hHeld K;have hHeld:=d;clear f d;refine qrd 8 fun K hK=>?_
   go_simp;refine(a9T _ _ _ _ _ _ _ _ _ i o (by omega)).mono ?_;rintro e V ⟨v3,rfl,p,f⟩;have d:=HB.trans hHeld f;have i:=i.below f;have o:=o.below f;have p:=p.weaken (B:=wd.heap.size) (BW hHeld);go_wp2_with fail;refine hK.out _ _ d (fun _=>?_);clear hK hHeld K;have hHeld:=d;clear f d;refine qth 9 2 ?_;refine Bn (by kernel_rfl) ?_ _;go_wp2_with fail;go_ret;rw[R.out];exact⟨_,rfl,p.weaken (BW g.out),Below.trans g.out (Below.mono hHeld (BW g.out))⟩
theorem sneq(a b:List UInt8):(!(a0c a).toList == (a0c b).toList)= !decide (a=b):=by
 by_cases h:a=b
 ·simp[h]
 ·have:¬(a0c a).toList=(a0c b).toList:=fun e=>h (by simpa[a0X] using e)
  simp[h,this]
theorem b1J(w:World)(a H:Option Addr)(n cap i:Nat)(ls ls2:List (List UInt8))(C:Ss w a n cap ls)(v:Ss w H n i ls2):
  Calls Tryz.prog 239 #[.slice a n cap,.slice H n i] w fun e w'=>e= .returned (.bool (decide (ls=ls2)))/\Below w.heap.size w w':=by
 have L:n<=9223372036854775807:=Ad C.2.1 (Ad C.2.2.1 (by unfold maxLen;decide));have s:=qh (aI C v);clear C v;go_enter Tryz.func239,Tryz.ntmps239;go_wp2_with fail;go_loopw [5,13] (fun _ k wr=>∃j:Nat,j<=n/\k= .int .i64 (j:Int)/\ls.take j=ls2.take j/\Below w.heap.size w wr) (fun _ k _=>n - (intOf k).toNat);case atStart=>exact ⟨0,by omega,rfl,rfl,Ab _ _⟩
 case round=>
  obtain⟨j,I,rfl,o,d⟩:=hrel;by_cases q:j<n
  ·obtain⟨b,off,rfl,u,t⟩:=s.out.1.at (by omega);obtain⟨M,z,rfl,m,l⟩:=s.out.2.at (by omega);have h:j<ls.length:=by rw[s.out.1.1];exact q
   have g:j<ls2.length:=by rw[s.out.2.1];exact q
   have P:=(d.cell (p:=⟨b,off+j,none⟩) u).trans (t j h);have S:=(d.cell (p:=⟨M,z+j,none⟩) m).trans (l j g);have B:=Ar h;have D:=Ar g;have g1:ls[j]? =some ls[j]:=List.getElem?_eq_getElem h;have g2:ls2[j]? =some ls2[j]:=List.getElem?_eq_getElem g;generalize ls[j]=x at *;generalize ls2[j]=y at *;have O:(0:Int)<=(j:Int):=by omega
   have Q:(j:Int)<(n:Int):=by omega
   obtain⟨F,f⟩:=qnm (j+1);have R:IntKind.i64.wrap ((j:Int)+1)=(F:Int):=by rw[Ak _ (by omega)];omega
   have E:=sneq x y;have G:=qh (aI o (aI B (aI D (aI g1 (aI g2 (aI f d))))));have N:=Ai u d.size;have K:=Ai m d.size;clear o B D g1 g2 f t l h g I d;by_cases c:x=y
   ·have A:decide (x=y)=true:=by simp[c]
    rw[A] at E;simp only[Bool.not_true] at E;clear A;have r:=qh c;clear c;go_upto_region 6 with fail
    refine Cb 8 (by kernel_rfl) (by kernel_rfl) ?_;simp only[BL,BN,BM,BP];repeat still_step
    refine AK ?_;go_wp2_with fail;go_roundw;case rel=>
     obtain⟨o,B,D,_,_,f,d⟩:=G.out;exact⟨F,by omega,rfl,by rw[f,B,D,o,r.out],d.drew⟩
    case measure=>
     obtain⟨_,_,_,_,_,f,_⟩:=G.out;show n - (F:Int).toNat<n - (j:Int).toNat;omega
   ·have A:decide (x=y)=false:=by simp[c]
    rw[A] at E;simp only[B5] at E;clear A;have r:=qh c;clear c;go_upto_region 6 with fail
    refine Cb 8 (by kernel_rfl) (by kernel_rfl) ?_;simp only[BL,BN,BM,BP];repeat still_step
    refine AK ?_;go_wp2_with fail;go_ret;obtain⟨_,_,_,g1,g2,_,d⟩:=G.out;refine⟨?_,d.drew⟩;have:¬ls=ls2:=fun e=>by
     subst e;rw[g1] at g2;injection g2 with g2;exact r.out g2
    simp[this]
  ·obtain rfl:j=n:=by omega
   have J:ls=ls2:=by
    rw[Am (by rw[s.out.1.1];exact Aa _),Am (by rw[s.out.2.1];exact Aa _)] at o;exact o
   have HB:=qh (aI J d);clear o J d q I;go_wp2_with fail;go_ret;exact⟨by rw[AB HB.out.1];rfl,HB.out.2⟩
theorem b0c(w:World)(a b:Option Addr)(n cap n2 c:Nat)(p g:List (List UInt8))(k:Ss w a n cap p)(d:Ss w b n2 c g):
  Calls Tryz.prog 166 #[.slice b n2 c,.slice a n cap] w fun e w'=>e= .returned (.bool (decide (p <+:g)))/\Below w.heap.size w w':=by
 have l:p.length=n:=k.1;have j:g.length=n2:=d.1;by_cases f:n<=n2
 ·have r:(n:Int)<=(n2:Int):=by omega
  have s:(0:Int)<=(n:Int):=by omega
  have o:(n:Int)<=(c:Int):=by have:=d.2.1;omega
  have m:=qh (b1J w b a n c cap (g.take n) p (d.take f) k);have i:decide (g.take n=p)=decide (p <+:g):=by
   rw[decide_eq_decide,List.prefix_iff_eq_take,l];exact eq_comm
  rw[i] at m;clear k d i l j f;go_enter Tryz.func166,Tryz.ntmps166;go_wp2_with fail;refine m.out.mono ?_;rintro e t ⟨rfl,q⟩;go_wp2_with fail;go_ret;exact⟨rfl,q⟩
 ·have r:¬(n:Int)<=(n2:Int):=by omega
  have i:decide (p <+:g)=false:=Aq (fun h=>by have:=h.length_le;omega);rw[i];clear k d i l j f;go_enter Tryz.func166,Tryz.ntmps166;go_wp2_with fail;go_ret;exact⟨rfl,Ab _ _⟩
end
section
open Go.RowKit Go.ChangeMaps Go.MapKept
theorem a9b(b:Nat)(c:Array MapEntry)(a:Nat)(w:World)(d:w.heap[b]? =some (.map c a)):
  Calls Tryz.prog 148 #[.map (some b)] w fun e w'=>e= .returned (.map (some w.heap.size))/\w'=w.alloc (.map c a):=by
 have f:=fun w=>run_eql_map_nil_sl (P:=Tryz.prog) w 231 _ _ (some b) Tryz.underlying231
 go_enter Tryz.func148,Tryz.ntmps148;go_wp2;rw[run_callFunc_extern Tryz.func230 (by kernel_rfl) (by kernel_rfl) (by kernel_rfl) (e:=Extern.MapsClone.clone) (by kernel_rfl),run_maps_clone_sl w 231 d];simp only[Result.andThen];rw[Oper.upon_value];go_wp2;rw[run_typeAssert_map_sl _ 231 20 _ _ _ Tryz.underlying231];simp only[Result.andThen];rw[Oper.upon_value];go_wp2;go_ret;exact⟨rfl,rfl⟩
theorem b15(w:World):
  Calls Tryz.prog 148 #[.map none] w fun e w'=>e= .returned (.map none)/\w'=w:=by
 have a:=fun w=>run_eql_map_nil_sl (P:=Tryz.prog) w 231 _ _ none Tryz.underlying231
 go_enter Tryz.func148,Tryz.ntmps148;go_wp2;go_ret;exact⟨rfl,rfl⟩
theorem b16(b:Nat)(l:List (List UInt8×Value))(w:World)(h:MapAt a0L Tryz.prog a3c w b l):
  Calls Tryz.prog 148 #[.map (some b)] w fun e w'=>e= .returned (.map (some w.heap.size))/\MapAt a0L Tryz.prog a3c w' w.heap.size l/\Below w.heap.size w w':=by
 obtain⟨c,a,f,F,g,j⟩:=h;refine(a9b b c a w f).mono fun e w' ⟨i,d⟩=>?_
 subst d;exact⟨i,⟨c,a,(MapKept.heap_alloc w _).1,F,g,j⟩,(Ab _ w).alloc (Aa _) _⟩
end
section
open Go.RowKit
theorem a6U(w:World)(c:TypeId)(n:Nat)(d:0<n)(j:n<=1000000000):
  ∃cap w',(Builtin.append_ #[30,3] c #[.slice none 0 0,.int .i64 (n:Int)]).run Tryz.prog w= .ok (.slice (some ⟨w.heap.size,0,none⟩) n cap) w'/\Row w' w.heap.size cap []/\n<=cap/\Below w.heap.size w w':=by
 obtain⟨i,h,a,e,b⟩:=info_parts b1c;have f:=Lib.run_append_nil_zeros (P:=Tryz.prog) w 30 3 c TB i (.int .u8 0) .i64 .i64 Tryz.underlying30 Tryz.underlying3 h a n d (by omega) (by omega) (by rw[b];omega);refine⟨_,_,f,?_,grownCap_ge _ _ _ _,((Ab _ w).drew).alloc (by simp) _⟩;have g:(w.drew.alloc (.cells (Builtin.zeroCells (Value.int .u8 0).cells n ++Builtin.zeroCells (Value.int .u8 0).cells (grownCap w n 0 TB - n)) TB)).heap[w.heap.size]? =some (.cells (Builtin.zeroCells (Value.int .u8 0).cells n ++Builtin.zeroCells (Value.int .u8 0).cells (grownCap w n 0 TB - n)) TB (0,0)):=by
  have:=World.alloc_heap_new w.drew (.cells (Builtin.zeroCells (Value.int .u8 0).cells n ++Builtin.zeroCells (Value.int .u8 0).cells (grownCap w n 0 TB - n)) TB);simpa using this
 have k:=grownCap_ge w n 0 TB;exact⟨_,g,by simp[Builtin.zeroCells,Value.cells];omega,AH _,grownCap_le_maxLen _ _ _ _ (by unfold maxLen;omega),by simp⟩
theorem b6h(n:Nat)(w:World)(d:n<=1000000000):
  Calls Tryz.prog 206 #[.slice none 0 0,.int .i64 (n:Int)] w fun e w'=>∃v,e= .returned v/\Own w' w.heap.size v []/\Below w.heap.size w w':=by
 obtain⟨H,j⟩:=qnm w.heap.size;rcases BS n with rfl | b
 ·go_enter Tryz.func206,Tryz.ntmps206;go_wp2_with fail;go_ret;exact⟨_,rfl,Own.nil _ _,Ab _ _⟩
 ·have l:¬(n:Int)<0:=by omega
  have i:(0:Int)<(n:Int):=by omega
  have m:IntKind.i64.wrap (n:Int)=(n:Int):=by rw[Ak _ (by omega)]
  obtain⟨cap,k,f,g,o,h⟩:=a6U w 30 n b d;have c:=qh g;have a:=qh h;go_enter Tryz.func206,Tryz.ntmps206;go_wp2_with (at_builtin;refine Lib.wpList_append_run _ rfl _ _ _ _ rfl _ _ rfl rfl _ _ f ?_);go_ret;refine⟨_,rfl,?_,a.out⟩;have:=Own.of_row c.out (Aa w.heap.size);simpa using this
theorem Own.ofs{w:World}{B:Nat}{v:Value}{xs:List UInt8}(h:Own w B v xs):∀k,v.ownBlock=some k->B<=k:=by
 intro k hk;rcases h.parts with⟨rfl,_⟩ | ⟨g,cap,rfl,a,_⟩
 ·simp[Value.ownBlock] at hk
 ·simp[Value.ownBlock] at hk;omega
theorem a6A(ls:List (List UInt8))(k:Nat)(h:k<ls.length):(ls.take (k+1)).flatten=(ls.take k).flatten ++ls.getD k []:=by
 rw[Ar h,AT];simp[List.getD_eq_getElem?_getD,List.getElem?_eq_getElem h]
theorem a8k(ls:List (List UInt8))(k:Nat):(ls.take k).flatten.length<=ls.flatten.length:=by
 conv=>rhs;rw[<-List.take_append_drop k ls]
 rw[AT,Af];omega
theorem a4e(n cap:Nat)(a:Option Addr)(ls:List (List UInt8))(w:World)(L:LL w a n cap ls)(hn:n<=100000)(Q:ls.flatten.length<=1000000000):
  Calls Tryz.prog 124 #[.slice a n cap] w fun e w'=>∃v,e= .returned v/\Own w' w.heap.size v ls.flatten/\Below w.heap.size w w':=by
 have I:=Ext.refl w;obtain⟨H,G⟩:=qnm w.heap.size;rw[<-G] at I⊢;have O:=qh G;have U:=qh L;have y:=qh L.1;have E:=qh Q;clear G L Q;go_enter Tryz.func124,Tryz.ntmps124;go_upto_block 0 with fail
 go_cut [3] (fun s wr=>s= .int .i64 (ls.flatten.length:Int)/\wr=w);case first=>
  go_wp2_with fail;go_loopw [3,11] (fun s i wr=>∃k S:Nat,k<=n/\i= .int .i64 k/\s= .int .i64 (S:Int)/\S=(ls.take k).flatten.length/\wr=w) (fun _ i _=>n - (intOf i).toNat);case atStart=>exact ⟨0,0,by omega,rfl,rfl,rfl,rfl⟩
  case round=>
   obtain⟨k,S,hk,rfl,rfl,V,rfl⟩:=hrel;have B:=qh V;clear V;by_cases g:k<n
   ·obtain⟨b,off,rfl,r,z⟩:=U.out.at (by omega);obtain⟨R,m,c,d,q⟩:=z k g;have f:S+m<=1000000000/\S+m=(ls.take (k+1)).flatten.length:=by
     have o:=a6A ls k (by rw[y.out];exact g);have C:=a8k ls (k+1);have h3:=An List.length o;rw[Af,<-B.out,q.1] at h3;have:=E.out;omega
    obtain⟨Z,x⟩:=f;have K:=qh x;clear z q x;have Y:(0:Int)<=(k:Int):=by omega
    have e2:(k:Int)<(n:Int):=by omega
    have e3:¬((S:Int)+(m:Int))<0:=by omega
    go_wp2_with fail;go_roundw;case rel=>exact ⟨k+1,S+m,by omega,by go_num,by go_num,K.out,trivial⟩
    case measure=>simp [intOf];omega
   ·obtain rfl:k=n:=by omega
    have l:ls.take k=ls:=Am (by rw[y.out];omega);go_wp2_with fail;go_meet;exact⟨by rw[B.out,l],rfl⟩
 case rest=>
  obtain⟨rfl,rfl⟩:=hcut;have M:=qh (b6h ls.flatten.length wc E.out);obtain⟨F,hF⟩:=qnm ls.flatten.length;rw[<-hF] at M⊢;have X:=qh hF;clear hF;go_wp2_with fail;refine M.out.mono ?_;rintro e w1 ⟨v0,rfl,J,T⟩;rw[<-O.out] at J;have t:=I.step T;clear T M I;go_wp2_with fail;go_loopw [6,27] (fun s i wx=>∃k:Nat,k<=n/\i= .int .i64 k/\Own wx H s (ls.take k).flatten/\Ext H wc wx) (fun _ i _=>n - (intOf i).toNat);case atStart=>exact ⟨0,by omega,rfl,J,t⟩
  case round=>
   obtain⟨k,hk,rfl,j,h⟩:=hrel;clear J t;by_cases g:k<n
   ·obtain⟨b,off,rfl,r,z⟩:=U.out.at (by omega);obtain⟨R,m,c,d,q⟩:=z k g;have A:=(h.1.cell (p:=⟨b,off+k,none⟩) (by rw[O.out];exact r)).trans d;have u:=q.below (by rw[<-O.out];exact h.1);have f:(ls.take k).flatten.length+m<=140737488355328:=by
     have C:=a8k ls k;have h3:=q.1;have h4:(ls.getD k []).length<=ls.flatten.length:=by
      have o:=a6A ls k (by rw[y.out];exact g);have C:=a8k ls (k+1);have h3:=An List.length o;rw[Af] at h3;omega
     have:=E.out;omega
    have N:=qh u;have W:=qh j;have B:=qh f;have P:=qh h;have HC:=qh (a6A ls k (by rw[y.out];exact g));clear z q d u j f h;have Y:(0:Int)<=(k:Int):=by omega
    have e2:(k:Int)<(n:Int):=by omega
    go_wp2_with (at_builtin;refine a1x rfl _ _ rfl H _ _ rfl W.out R m c _ rfl N.out B.out P.out.2 ?_;intro v' W1 o C _);have D:=P.out.grown C W.out.ofs;rw[<-HC.out] at o;go_roundw;case rel=>exact ⟨k+1,by omega,by go_num,o,D⟩
    case measure=>simp [intOf];omega
   ·obtain rfl:k=n:=by omega
    have l:ls.take k=ls:=Am (by rw[y.out];omega);rw[l] at j;go_wp2_with fail;go_ret;exact⟨_,rfl,j,h.1⟩
end
section
open Go.RowKit Go.ChangeMaps Go.MapKept
def MTn:Nat:=1099511627776
variable {w : World} {L B t mb c : Nat} {F G : Nat → Nat} {T : Tr}
theorem a8o(T:Tr)(i:Nat)(h:fileT T i=0):∃x,getK i T=some x/\x.n.kind≠2:=by
 unfold fileT at h;cases a:getK i T with
 | none=>rw [a] at h;simp at h
 | some x=>
  refine⟨x,rfl,fun hk=>?_⟩;rw[a] at h;simp[hk] at h
theorem a4d(F:Nat->Nat)(T:Tr)(i:Nat)(h:fileT T i≠0):a8n F T i= .tuple #[.pointer none,.int .i64 (fileT T i:Int)]:=Ah h
theorem a4c(F:Nat->Nat)(T:Tr)(i:Nat)(h:fileT T i=0):a8n F T i= .tuple #[.pointer (some ⟨F i,0,none⟩),.int .i64 0]:=Ag (by omega)
theorem TChg.item{w':World}{g:Nat}{C:Array Value}(h:Chg (fun k=>k=g) w w')(b:w.heap[g]? =some (.cells C a17 (0,0)))(a:B<=g):TChg B w w':=
 h.mono (fun _ _ e=>by rw[e];exact⟨a,.inl ⟨C,(0,0),b⟩⟩)
theorem a0x(w:World)(g i:Nat)(u:Value):Chg (fun k=>k=g) w (w.setCell ⟨g,i,none⟩ u):=Chg.setCell (S:=fun k=>k=g) (p:=⟨g,i,none⟩) (Chg.refl _ w) (fun _=>rfl) u
theorem a0e{g:Nat}{C:Array Value}{t:TypeId}(h:w.heap[g]? =some (.cells C t (0,0)))(j:Nat):w.frozen? ⟨g,j,none⟩=false:=by simp[World.frozen?,h]
def b21(x:It)(u:Nat):It:=⟨⟨x.n.id,x.n.kind,x.n.links,x.n.size,u,x.n.closed⟩,x.b,x.names⟩
def a5t(x:It)(u:Nat):It:=⟨⟨x.n.id,x.n.kind,x.n.links,x.n.size,u,true⟩,x.b,x.names⟩
def b4X(x:It)(b:List UInt8):It:=⟨⟨x.n.id,x.n.kind,x.n.links,((x.b ++b).length:Nat),x.n.til,x.n.closed⟩,x.b ++b,x.names⟩
theorem TreeIn.til(h:TreeIn w L B t mb F G T){i:Nat}{x:It}(d:getK i T=some x)(u:Nat):
  TreeIn (w.setCell ⟨F i,4,none⟩ (.int .u64 (u:Int))) L B t mb F G (a01 T i (b21 x u))/\TChg B w (w.setCell ⟨F i,4,none⟩ (.int .u64 (u:Int))):=by
 obtain⟨g,v,m,b,h3,_⟩:=h.item i x d;have c:=a0x w (F i) 4 (.int .u64 (u:Int));have f:=a0Q (i:=4) b (.int .u64 (u:Int));refine⟨h.setItem d c b f ?_ rfl rfl,TChg.item c b g⟩;exact h3.chg0 c (fun k _ e C a=>by subst e;rw[b] at a;injection a with a;injection a with _ a;exact absurd a (by decide))
theorem TreeIn.seal(h:TreeIn w L B t mb F G T){i:Nat}{x:It}(d:getK i T=some x)(u:Nat):
  TreeIn ((w.setCell ⟨F i,5,none⟩ (.bool true)).setCell ⟨F i,4,none⟩ (.int .u64 (u:Int))) L B t mb F G (a01 T i (a5t x u))/\TChg B w ((w.setCell ⟨F i,5,none⟩ (.bool true)).setCell ⟨F i,4,none⟩ (.int .u64 (u:Int))):=by
 obtain⟨g,v,m,b,h3,_⟩:=h.item i x d;have c:Chg (fun k=>k=F i) w ((w.setCell ⟨F i,5,none⟩ (.bool true)).setCell ⟨F i,4,none⟩ (.int .u64 (u:Int))):=(a0x w (F i) 5 _).setCell (fun _=>rfl) _;have f:=a0Q (i:=4) (a0Q (i:=5) b (.bool true)) (.int .u64 (u:Int));refine⟨h.setItem d c b f ?_ rfl rfl,TChg.item c b g⟩;exact h3.chg0 c (fun k _ e C a=>by subst e;rw[b] at a;injection a with a;injection a with _ a;exact absurd a (by decide))
theorem TreeIn.app(h:TreeIn w L B t mb F G T){i:Nat}{x:It}(f:getK i T=some x)(b:List UInt8)(v:Value)(hv:Own w L v (x.b ++b)):
  TreeIn ((w.setCell ⟨F i,6,none⟩ v).setCell ⟨F i,3,none⟩ (.int .i64 (((x.b ++b).length:Nat):Int))) L B t mb F G (a01 T i (b4X x b))/\TChg B w ((w.setCell ⟨F i,6,none⟩ v).setCell ⟨F i,3,none⟩ (.int .i64 (((x.b ++b).length:Nat):Int))):=by
 obtain⟨j,l,m,c,h3,_⟩:=h.item i x f;have d:Chg (fun k=>k=F i) w ((w.setCell ⟨F i,6,none⟩ v).setCell ⟨F i,3,none⟩ (.int .i64 (((x.b ++b).length:Nat):Int))):=(a0x w (F i) 6 _).setCell (fun _=>rfl) _;have g:=a0Q (i:=3) (a0Q (i:=6) c v) (.int .i64 (((x.b ++b).length:Nat):Int));refine⟨h.setItem f d c g ?_ rfl rfl,TChg.item d c j⟩;exact hv.chg0 d (fun k _ e C a=>by subst e;rw[c] at a;injection a with a;injection a with _ a;exact absurd a (by decide))
def a3z(T:Tr)(i u:Nat):Nat×Tr:=
 if fileT T i≠0 then(fileT T i,T) else match getK i T with
  | none=>(20,T)
  | some x=>if x.n.closed=false then(25,T) else if u<x.n.til then(28,T) else if MTn<u then(1,T) else(0,a01 T i (b21 x u))
def a2S(T:Tr)(i u:Nat):Nat×Tr:=
 if fileT T i≠0 then(fileT T i,T) else match getK i T with
  | none=>(20,T)
  | some x=>if x.n.closed=true then(27,T) else if MTn<u then(1,T) else(0,a2f (a01 T i (a5t x u)) i)
def a6Q(T:Tr)(i:Nat)(b:List UInt8):Nat×Tr:=
 if fileT T i≠0 then(fileT T i,T) else match getK i T with
  | none=>(20,T)
  | some x=>if x.n.closed=true then(27,T) else if(4096:Int) - x.n.size<b.length then(15,T) else(0,a01 T i (b4X x b))
theorem b20(h:TreeIn w L B t mb F G T)(z:TrOk c T)(i u:Nat)(I:i<=1000000):
  Calls Tryz.prog 170 #[.pointer (some ⟨t,0,none⟩),.int .i64 (i:Int),.int .u64 (u:Int)] w fun e w'=>e= .returned (.int .i64 ((a3z T i u).1:Int))/\TreeIn w' L B t mb F G (a3z T i u).2/\TChg B w w':=by
 have j:=qh (a2Q h z i I);have r:=qh h;by_cases o:fileT T i=0
 ·obtain⟨x,q,hk⟩:=a8o T i o;rw[a4c _ _ _ o] at j;have E:a3z T i u=if x.n.closed=false then(25,T) else if u<x.n.til then(28,T) else if MTn<u then(1,T) else(0,a01 T i (b21 x u)):=by
   unfold a3z;rw[Ag (by omega),q]
  obtain⟨_,v,m,D,_⟩:=h.item i x q;obtain⟨_,_,_,_,K,N,_⟩:=a0m D;have O:=a0e D 4;have s:=qh (aI q E);have d:=qh (h.til q u);obtain⟨J,g⟩:=qnm x.n.closed;obtain⟨A,l⟩:=qnm x.n.til;rw[<-g] at N;rw[<-l] at K;have k:=qh (aI g l);clear h z o q E D g l hk;cases J with
  | false=>
   have b:=qh (show a3z T i u=(25,T) by rw[s.out.2,Ah k.out.1.symm]);go_enter Tryz.func170,Tryz.ntmps170;go_wp2_with fail;refine j.out.mono ?_;rintro e y ⟨rfl,rfl⟩;go_wp2_with fail;go_ret;rw[b.out];exact⟨rfl,r.out,TChg.refl _ _⟩
  | true=>
   by_cases a:u<A
   ·have C:(u:Int)<(A:Int):=by omega
    have b:=qh (show a3z T i u=(28,T) by rw[s.out.2,Ag (by rw[<-k.out.1];simp),Ah (by rw[<-k.out.2];exact a)]);clear a;go_enter Tryz.func170,Tryz.ntmps170;go_wp2_with fail;refine j.out.mono ?_;rintro e y ⟨rfl,rfl⟩;go_wp2_with fail;go_ret;rw[b.out];exact⟨rfl,r.out,TChg.refl _ _⟩
   ·have C:¬(u:Int)<(A:Int):=by omega
    by_cases p:MTn<u
    ·have H:(1099511627776:Int)<(u:Int):=by unfold MTn at p;omega
     have b:=qh (show a3z T i u=(1,T) by rw[s.out.2,Ag (by rw[<-k.out.1];simp),Ag (by rw[<-k.out.2];exact a),Ah p]);clear a p;go_enter Tryz.func170,Tryz.ntmps170;go_wp2_with fail;refine j.out.mono ?_;rintro e y ⟨rfl,rfl⟩;go_wp2_with fail;go_ret;rw[b.out];exact⟨rfl,r.out,TChg.refl _ _⟩
    ·have H:¬(1099511627776:Int)<(u:Int):=by unfold MTn at p;omega
     have b:=qh (show a3z T i u=(0,a01 T i (b21 x u)) by rw[s.out.2,Ag (by rw[<-k.out.1];simp),Ag (by rw[<-k.out.2];exact a),Ag p]);clear a p;go_enter Tryz.func170,Tryz.ntmps170;go_wp2_with fail;refine j.out.mono ?_;rintro e y ⟨rfl,rfl⟩;go_wp2_with fail;go_ret;rw[b.out];exact⟨rfl,d.out.1,d.out.2⟩
 ·rw[a4d _ _ _ o] at j;have b:=qh (show a3z T i u=(fileT T i,T) by unfold a3z;rw[Ah o]);generalize fileT T i=f at *;have M:¬(f:Int)=0:=by omega
  clear h z o;go_enter Tryz.func170,Tryz.ntmps170;go_wp2_with fail;refine j.out.mono ?_;rintro e y ⟨rfl,rfl⟩;go_wp2_with fail;go_ret;rw[b.out];exact⟨rfl,r.out,TChg.refl _ _⟩
theorem b2S(h:TreeIn w L B t mb F G T)(q:TrOk c T)(i u:Nat)(E:i<=1000000):
  Calls Tryz.prog 161 #[.pointer (some ⟨t,0,none⟩),.int .i64 (i:Int),.int .u64 (u:Int)] w fun e w'=>e= .returned (.int .i64 ((a2S T i u).1:Int))/\TreeIn w' L B t mb F G (a2S T i u).2/\TChg B w w':=by
 have g:=qh (a2Q h q i E);have y:=qh h;by_cases j:fileT T i=0
 ·obtain⟨x,a,hk⟩:=a8o T i j;rw[a4c _ _ _ j] at g;have H:a2S T i u=if x.n.closed=true then(27,T) else if MTn<u then(1,T) else(0,a2f (a01 T i (a5t x u)) i):=by
   unfold a2S;rw[Ag (by omega),a]
  obtain⟨_,v,m,r,_⟩:=h.item i x a;obtain⟨_,_,_,_,P,M,_⟩:=a0m r;have O:=a0e r 4;have N:=a0e r 5;have z:=qh (aI a H);have o:=qh (h.seal a u);have s:=qh (a7a (h.seal a u).1 i (a5t x u) (by rw[a0q,Ah rfl,a];rfl) (q.nd i x a).2.1 E);obtain⟨J,b⟩:=qnm x.n.closed;rw[<-b] at M;have C:=qh b;clear h q j a H r b hk;cases J with
  | true=>
   have d:=qh (show a2S T i u=(27,T) by rw[z.out.2,Ah C.out.symm]);go_enter Tryz.func161,Tryz.ntmps161;go_wp2_with fail;refine g.out.mono ?_;rintro e A ⟨rfl,rfl⟩;go_wp2_with fail;go_ret;rw[d.out];exact⟨rfl,y.out,TChg.refl _ _⟩
  | false=>
   by_cases k:MTn<u
   ·have I:(1099511627776:Int)<(u:Int):=by unfold MTn at k;omega
    have d:=qh (show a2S T i u=(1,T) by rw[z.out.2,Ag (by rw[<-C.out];simp),Ah k]);clear k;go_enter Tryz.func161,Tryz.ntmps161;go_wp2_with fail;refine g.out.mono ?_;rintro e A ⟨rfl,rfl⟩;go_wp2_with fail;go_ret;rw[d.out];exact⟨rfl,y.out,TChg.refl _ _⟩
   ·have I:¬(1099511627776:Int)<(u:Int):=by unfold MTn at k;omega
    have d:=qh (show a2S T i u=(0,a2f (a01 T i (a5t x u)) i) by rw[z.out.2,Ag (by rw[<-C.out];simp),Ag k]);clear k;go_enter Tryz.func161,Tryz.ntmps161;go_wp2_with fail;refine g.out.mono ?_;rintro e A ⟨rfl,rfl⟩;go_wp2_with fail;refine s.out.mono ?_;rintro e w2 ⟨rfl,p,l⟩;have D:=qh (aI p (o.out.2.trans l));clear p l;go_wp2_with fail;go_ret;rw[d.out];exact⟨rfl,D.out.1,D.out.2⟩
 ·rw[a4d _ _ _ j] at g;have d:=qh (show a2S T i u=(fileT T i,T) by unfold a2S;rw[Ah j]);generalize fileT T i=f at *;have K:¬(f:Int)=0:=by omega
  clear h q j;go_enter Tryz.func161,Tryz.ntmps161;go_wp2_with fail;refine g.out.mono ?_;rintro e A ⟨rfl,rfl⟩;go_wp2_with fail;go_ret;rw[d.out];exact⟨rfl,y.out,TChg.refl _ _⟩
theorem b8n{w:World}{g:Nat}{b a:Option Addr}{e c d f:Nat}{xs ys:List UInt8}(h:w.cell? ⟨g,0,none⟩=some (.slice b e d))(l:w.cell? ⟨g,1,none⟩=some (.slice a c f))(k:g<w.heap.size)(m:Bs w b e d xs)(j:Bs w a c f ys):LL w (some ⟨g,0,none⟩) 2 2 [xs,ys]:=by
 refine⟨rfl,Aa _,by simp[maxLen],.inr ⟨g,0,rfl,k,fun i n=>?_⟩⟩
 match i,n with
 | 0,_=>exact ⟨_,_,_,h,m⟩
 | 1,_=>exact ⟨_,_,_,l,j⟩
theorem b5l(h:TreeIn w L B t mb F G T)(S:TrOk c T)(a1:L<=w.heap.size)(i:Nat)(hi:i<=1000000)(J:Option Addr)(dl E:Nat)(ds:List UInt8)(U:Bs w J dl E ds):
  Calls Tryz.prog 160 #[.pointer (some ⟨t,0,none⟩),.int .i64 (i:Int),.slice J dl E] w fun e w'=>e= .returned (.int .i64 ((a6Q T i ds).1:Int))/\TreeIn w' L B t mb F G (a6Q T i ds).2/\TChg B w w':=by
 have A:=qh (a2Q h S i hi);have Q:=qh h;have g:=U.1;by_cases C:fileT T i=0
 ·obtain⟨x,l,hk⟩:=a8o T i C;rw[a4c _ _ _ C] at A;have hr:a6Q T i ds=if x.n.closed=true then(27,T) else if(4096:Int) - x.n.size<dl then(15,T) else(0,a01 T i (b4X x ds)):=by
   unfold a6Q;rw[Ag (by omega),l,g]
  obtain⟨_,v,m,y,h3,_⟩:=h.item i x l;obtain⟨_,_,_,d3,_,d5,d6,_⟩:=a0m y;have R:=qh (aI l (aI hr y));obtain⟨_,_,I,a0,_⟩:=S.nd i x l;have Z:0<=x.n.size/\x.n.size<=4096:=by
   have:=I.2.2.2.2;omega
  obtain⟨n,Y⟩:∃n:Nat,n=x.b.length:=⟨_,rfl⟩
  obtain⟨V,P,rfl,M⟩:=h3.bsn (n:=n) Y.symm;obtain⟨cl,o⟩:=qnm x.n.closed;rw[<-o] at d5;have s:x.n.size=(n:Int):=by omega
  rw[s] at d3 Z;have e1:IntKind.i64.wrap (4096 - (n:Int))=4096 - (n:Int):=by rw[Ak _ (by omega)]
  have D:=qh (aI o (aI s Y));have HB:=qh (aI M (aI U g));clear h S C l hr y o hk h3 Y I a0 M U s g;cases cl with
  | true=>
   have p:=qh (show a6Q T i ds=(27,T) by rw[R.out.2.1,Ah D.out.1.symm]);go_enter Tryz.func160,Tryz.ntmps160;go_wp2_with fail;refine A.out.mono ?_;rintro e w1 ⟨rfl,rfl⟩;go_wp2_with fail;go_ret;rw[p.out];exact⟨rfl,Q.out,TChg.refl _ _⟩
  | false=>
   by_cases h1:4096 - (n:Int)<(dl:Int)
   ·have p:=qh (show a6Q T i ds=(15,T) by rw[R.out.2.1,Ag (by rw[<-D.out.1];simp),Ah (by rw[D.out.2.1];exact h1)]);go_enter Tryz.func160,Tryz.ntmps160;go_wp2_with fail;refine A.out.mono ?_;rintro e w1 ⟨rfl,rfl⟩;go_wp2_with fail;go_ret;rw[p.out];exact⟨rfl,Q.out,TChg.refl _ _⟩
   ·have p:=qh (show a6Q T i ds=(0,a01 T i (b4X x ds)) by rw[R.out.2.1,Ag (by rw[<-D.out.1];simp),Ag (by rw[D.out.2.1];exact h1)]);have a2:n+dl<=4096:=by omega
    have r:=(Ab w.heap.size w).alloc (Aa _) (.cells #[.slice V n P,.slice J dl E] 30);have j:LL (w.alloc (.cells #[.slice V n P,.slice J dl E] 30)) (some ⟨w.heap.size,0,none⟩) 2 2 [x.b,ds]:=b8n (a07 _ _ _ 0) (a07 _ _ _ 1) (by simp) (HB.out.1.below r) (HB.out.2.1.below r);have z:([x.b,ds]:List (List UInt8)).flatten=x.b ++ds:=by simp
    have u:(x.b ++ds).length=n+dl:=by rw[Af,HB.out.2.2,<-D.out.2.2]
    have K:=qh (a4e 2 2 _ _ _ j (by omega) (by rw[z,u];omega));rw[z] at K;have hE:=qh ((Ext.refl w).alloc (.cells #[.slice V n P,.slice J dl E] 30));have H:=qh u;clear j r z u;go_enter Tryz.func160,Tryz.ntmps160;go_wp2_with fail;refine A.out.mono ?_;rintro e w1 ⟨rfl,rfl⟩;go_wp2_with fail;refine K.out.mono ?_;rintro e w2 ⟨v2,rfl,q,hb2⟩;have d:=hE.out.step hb2;obtain⟨l,_,y⟩:=R.out;have a:=(d.1.block _ (Array.getElem?_eq_some_iff.1 y).1).trans y;have f3:=a0e a 3;have f6:=a0e a 6;have c6:w2.cell? ⟨F i,6,none⟩=some (.slice V n P):=a0a a 6;have c3:w2.cell? ⟨F i,3,none⟩=some (.int .i64 x.n.size):=a0a a 3;clear d3 d5 d6;have O:=qh ((Q.out.below d.1).app l ds v2 (q.base (by have:=hE.out.2;omega)));obtain⟨va,vc,rfl,W⟩:=q.bsn (n:=n+dl) H.out;have k:(((x.b ++ds).length:Nat):Int)=((n+dl:Nat):Int):=by rw[H.out]
    rw[k] at O;obtain⟨N,hN⟩:=qnm (n+dl);rw[<-hN] at O⊢;have X:=qh d.1;clear q hb2 d l y a W k hN;go_wp2_with fail;go_ret;rw[p.out];exact⟨rfl,O.out.1,(TChg.of_below X.out).trans O.out.2⟩
 ·rw[a4d _ _ _ C] at A;have p:=qh (show a6Q T i ds=(fileT T i,T) by unfold a6Q;rw[Ah C]);generalize fileT T i=f at *;have a3:¬(f:Int)=0:=by omega
  clear h S C U g;go_enter Tryz.func160,Tryz.ntmps160;go_wp2_with fail;refine A.out.mono ?_;rintro e w1 ⟨rfl,rfl⟩;go_wp2_with fail;go_ret;rw[p.out];exact⟨rfl,Q.out,TChg.refl _ _⟩
end
end Go.Proofs.YtbemfdcjieakdaaGreatDoor
