/- LogDid; RecClone; SegRecs; StNew. -/
import Derived.Test.YtbemfdcjieakdaaGreatDoorK24
set_option maxRecDepth 100000
set_option maxHeartbeats 8000000
namespace Go.Proofs.YtbemfdcjieakdaaGreatDoor
section
open Go.RowKit Go.ChangeMaps Go.MapKept
theorem a3O{W W':World}{l:Nat}{v:Value}{xs:List UInt8}{B:Nat}{C:Array Value}(c:W.heap[l]? =some (.cells C TLog (0,0)))(d:Chg (fun k=>k=l) W W')(b:Own W B v xs):Own W' B v xs:=d.own b (fun k hk e=>by
  obtain⟨g,f,a⟩:=b.tyb k hk;rw[e,c] at a;injection a with a;injection a with _ a;exact absurd a (by decide))
theorem a5M{W W':World}{l:Nat}{v:Value}{rs:List Rc}{B:Nat}{C:Array Value}(h:W.heap[l]? =some (.cells C TLog (0,0)))(a:Chg (fun k=>k=l) W W')(d:OwnR W B v rs):OwnR W' B v rs:=by
  refine⟨?_,fun r g=>⟨(d.2 r g).1,(d.2 r g).2.1,a3O h a (d.2 r g).2.2⟩⟩;refine BC d.1 (row:=some l) ⟨a.os,a.tape,a.output,a.size,fun k hk f=>a.block k hk (fun e=>f (by rw[e]))⟩ ?_;cases hv:v.ownBlock with
  | none=>exact .inl rfl
  | some b=>
   refine .inr fun e=>?_
   injection e with e
   obtain⟨j,i,c⟩:=d.ty b hv;rw[e,h] at c;injection c with c;injection c with _ c;exact absurd c (by decide)
variable {w : World} {B l d : Nat} {s p g : Int} {hv wv : Value} {M : LogM}
theorem b7S(h:LogIn w B l d s p g hv wv M)(hs:M.sealed<=65535)(i f c:Nat)(n:Int)(G Q:Option Addr)(F O:Nat)(P R:List UInt8)(hi:i<=65535)(hc:c<=65535)(hf:f<=4611686018427387904)(B1:Nat)(hP:Own w B1 (.slice G 32 F) P)(Z:P.length=32)(hR:Own w B1 (.slice Q 32 O) R)(a7:R.length=32)(hB:B<=w.heap.size):
  Calls Tryz.prog 106 #[.pointer (some ⟨l,0,none⟩),.agg (a1f i f c n G F Q O)] w fun e w'=>e= .returned (.tuple #[])/\(∃ac,LogIn w' B l d s p g ac wv ⟨M.sealed+1,sha (a9j i f c P R),f+c,M.wait⟩)/\Chg (fun k=>k=l) w w':=by
 obtain⟨S,t⟩:=qnm (w.alloc (.cells (a1f i f c n G F Q O) 175));have hb1:=qba t;have a6:S.heap[w.heap.size]? =some (.cells (a1f i f c n G F Q O) 175 (0,0)):=by rw[t];exact Ae w _
 have C:=h.below hb1;have c4:S.cell? ⟨l,4,none⟩=some (.int .i64 (M.sealed:Int)):=a0a C.cel 4;have f4:=a0e C.cel 4;have hN:l<w.heap.size:=h.lt
 -- the count
 obtain⟨x,hx⟩:=qnm M.sealed;obtain⟨x2,W⟩:=qnm (x+1);obtain⟨fc,Y⟩:=qnm (f+c);obtain⟨w2,q⟩:=qnm (S.setCell ⟨l,4,none⟩ (.int .i64 (x2:Int)));have m:Chg (fun k=>k=l) S w2:=by rw[q];exact a0x S l 4 _
 have aa:w2.heap[l]? =some (.cells (logC d s p g x2 hv M.next wv) TLog (0,0)):=by
  rw[q,a0Q C.cel];rfl
 have a4:=a3O C.cel m (hP.below hb1);have a5:=a3O C.cel m (hR.below hb1);have a8:=a5M C.cel m C.wt;have ab:S.heap.size=w.heap.size+1:=by rw[t];simp
 have r:w2.heap.size=w.heap.size+1:=by rw[q];simp[World.setCell,ab]
 have a:w2.heap[w.heap.size]? =some (.cells (a1f i f c n G F Q O) 175 (0,0)):=(m.block _ (by omega) (by omega)).trans a6;have e4:IntKind.i64.wrap ((x:Int)+1)=(x2:Int):=by rw[Ak _ (by omega)];omega
 have e6:IntKind.u64.wrap (c:Int)=(c:Int):=Bb _ (by omega);have e7:IntKind.u64.wrap ((f:Int)+(c:Int))=(fc:Int):=by rw[Bb _ (by omega)];omega
 obtain⟨ai,ae,ep,J⟩:=a4.bsn Z;obtain⟨ag,ah,er,I⟩:=a5.bsn a7;injection ep with a0 _ a3
 injection er with X _ U
 rw[<-a0,<-a3] at J;rw[<-X,<-U] at I;have H:=qh (a9W i f c n G Q F O P R w2 hi hc J I);obtain⟨y,hy⟩:=qnm (sha (a9j i f c P R));rw[<-hy] at H⊢;rw[<-hx] at c4⊢;rw[<-W,<-Y];obtain⟨N,L⟩:=qnm w.heap.size;rw[<-L] at a hN r;have n0:w2.cell? ⟨N,0,none⟩=some (.int .i64 (i:Int)):=a0a a 0;have n1:w2.cell? ⟨N,1,none⟩=some (.int .u64 (f:Int)):=a0a a 1;have n2:w2.cell? ⟨N,2,none⟩=some (.int .i64 (c:Int)):=a0a a 2;have n3:w2.cell? ⟨N,3,none⟩=some (.int .i64 n):=a0a a 3;have n4:w2.cell? ⟨N,4,none⟩=some (.slice G 32 F):=a0a a 4;have n5:w2.cell? ⟨N,5,none⟩=some (.slice Q 32 O):=a0a a 5;have HW:=qh (aI t (aI q L));have j:=qh (aI aa (aI a (aI hN r)));have HK:=qh (aI a8 (aI hb1 (aI m hB)));clear h hP hR a6 C hb1 t q aa hN m a8 a4 a5 ab r a J I L hx hy hs hi hc hf hB Z a7 a0 a3 X U W Y;unfold a1f at HW H;unfold a1f;go_enter Tryz.func106,Tryz.ntmps106;go_upto_region 1 with fail
 rw[<-HW.out.1,<-HW.out.2.2];go_upto_region 2 with fail
 rw[<-HW.out.2.1];clear c4 f4;go_wp2_with fail;refine H.out.mono ?_;rintro e u ⟨v,rfl,ho,hb3⟩;obtain⟨ym,T⟩:∃ym,y.length=ym:=⟨_,rfl⟩
 obtain⟨E,D,rfl,_⟩:=ho.bsn T;have b:=(hb3.block l (by have:=j.out.2.2.2;have:=j.out.2.2.1;(try simp only);omega)).trans j.out.1;have f5:=a0e b 5;have c5:u.cell? ⟨l,5,none⟩=some hv:=a0a b 5;have c6:u.cell? ⟨l,6,none⟩=some (.int .u64 (M.next:Int)):=a0a b 6;have o:=a0Q (i:=5) b (.slice E ym D);have f6:=a0e o 6;have a1:=a0Q (i:=6) o (.int .u64 (fc:Int));have m1:=(hb3.cell (p:=⟨N,1,none⟩) (by have:=j.out.2.2.2;have:=j.out.2.2.1;(try simp only);omega)).trans n1;have m2:=(hb3.cell (p:=⟨N,2,none⟩) (by have:=j.out.2.2.2;have:=j.out.2.2.1;(try simp only);omega)).trans n2;have K:N≠l:=by have:=j.out.2.2.1;omega
 have af:(u.setCell ⟨l,5,none⟩ (.slice E ym D)).cell? ⟨N,1,none⟩=some (.int .u64 (f:Int)):=((a0x u l 5 (.slice E ym D)).cell (by have:=j.out.2.2.2;have:=j.out.2.2.1;(try simp only);have:=hb3.size;omega) K).trans m1;have ad:(u.setCell ⟨l,5,none⟩ (.slice E ym D)).cell? ⟨N,2,none⟩=some (.int .i64 (c:Int)):=((a0x u l 5 (.slice E ym D)).cell (by have:=j.out.2.2.2;have:=j.out.2.2.1;(try simp only);have:=hb3.size;omega) K).trans m2;have z:=a0x u l 5 (.slice E ym D);have A:=a0x (u.setCell ⟨l,5,none⟩ (.slice E ym D)) l 6 (.int .u64 (fc:Int));have a2:=a5M o A (a5M b z (HK.out.1.below hb3));have V:=a3O o A (a3O b z ho);have a9:Chg (fun k=>k=l) w ((u.setCell ⟨l,5,none⟩ (.slice E ym D)).setCell ⟨l,6,none⟩ (.int .u64 (fc:Int))):=
  ((((Chg.of_below HK.out.2.1 (fun k=>k=l)).trans HK.out.2.2.1 (fun _ _ h=>h)).step hb3).trans z (fun _ _ h=>h)).trans A (fun _ _ h=>h)
 have HF:=qh (aI a1 (aI a2 (aI V (aI a9 (aI hb3 HK.out.2.2.2)))));clear T b o a1 z A a2 V a9 hb3 ho n0 n1 n2 n3 n4 n5 K;go_wp2_with fail;refine bodyPost_end (CF rfl _ _ _) rfl ?_;obtain⟨k1,k2,k3,k4,k5,k6⟩:=HF.out;exact⟨rfl,⟨_,k1,k3.base (by have:=j.out.2.2.2;have:=HW.out.2.2;omega),k2⟩,k4⟩
end
section
open Go.RowKit Go.ChangeMaps Go.MapKept
theorem b3y:∀(rs:List Rc),∀u∈rcs rs,u.oneCell'=true
 | [],u,h=>by simp[rcs] at h
 | r :: rs,u,h=>by
  simp only[rcs,AP] at h;rcases h with rfl | rfl | rfl | h
  ·rfl
  ·rfl
  ·rfl
  ·exact b3y rs u h
theorem a7h{B:Nat}{v:Value}{rs:List Rc}(w:World)(h:OwnR w B v rs)(y:rs.length<=100000):
  Calls Tryz.prog 102 #[v] w fun e w'=>∃b,e= .returned b/\w'.ownsRow w.heap.size a2U 3 b rs.length (rcs rs)/\Below w.heap.size w w':=by
 obtain⟨i,r,c,f,k⟩:=a1U a8e;have l:=h.1.1;have a:=h.1;rcases h.1.2 with⟨rfl,m⟩ | ⟨g,cap,p,rfl,t,z,s⟩
 ·obtain rfl:=Ax.1 m;refine(AnyE.slices_Clone_nil Tryz.cloneR 0 0 w).mono ?_;rintro e w' ⟨rfl,n⟩;exact⟨_,rfl,A6 _ _ _ _,by rw[n];exact Ab _ _⟩
 ·refine(AnyE.slices_Clone Tryz.cloneR i _ 3 40 r c f k rfl (by decide) (fun w=>Tryz.sizeOf89 w) g 0 rs.length cap (rcs rs) w l (by unfold maxLen;omega) (by omega) (fun j u d=>?_) (b3y rs)).mono ?_
  ·have x:j<(rcs rs).length:=by
    rcases BE j (rcs rs).length with h | h
    ·exact h
    ·rw[Bo h] at d;cases d
   rw[AD,A1 (size:=3) a j (by omega)];exact d
  ·rintro e w' ⟨b,rfl,o,_,q⟩;exact⟨b,rfl,o,q⟩
end
section
open Go.RowKit
theorem a43{w w':World}{b:Array Oper}{rest:List Oper}{o:Oper}{a:Act}{Q:Exit->Act->World->Prop}(c:o.guard=none)(s x:Operand)(t:TypeId)
  (i:o.op= .call { callee:=.builtin .append,args:=#[s,x],argTypes:=#[t,t] }) (v u d:Value) (f:a.eval s=v) (g:a.eval x=u)
  (e:(Builtin.append_ #[t,t] o.type #[v,u]).run Tryz.prog w= .ok d w') (h:wpList Tryz.prog b Q rest (a.put o.dst d) w'):wpList Tryz.prog b Q (o :: rest) a w:=
 BX c fun _ hK=>by
  unfold Oper.wp execOp;simp only[i,resolve,invoke,builtin,Cs,Cr,BJ,BO,Au,Bf,f,g,e];exact hK _ _ h
def Rc.core(r:Rc):Int×Nat×List UInt8:=(r.k,r.q,r.ys)
theorem a9F(r:Rc)(rs:List Rc):a3F (r :: rs)=r.bytes ++a3F rs:=by simp[a3F]
theorem OwnR.grownTo{w:World}{B:Nat}{v:Value}{rs:List Rc}(h:OwnR w B v rs){B':Nat}(c:B'<=B):OwnR w B' v rs:=by
 refine⟨⟨h.1.1,?_⟩,fun r b=>⟨(h.2 r b).1,(h.2 r b).2.1,(h.2 r b).2.2.base c⟩⟩;rcases h.1.2 with d | ⟨g,cap,a,e,i,f⟩
 ·exact .inl d
 ·exact .inr ⟨g,cap,a,e,Ad c i,f⟩
theorem a97(a:Option Addr)(R cap:Nat)(ls:List Rc)(w:World)(i f:Nat)(n:Int)(pa ra:Option Addr)(pc rc:Nat)(B:Bs w a R cap (a3F ls))(hl:R<=1000)(ab:∀r∈ls,a1Z r.k r.q r.ys.length)(U:∀j (h:j<ls.length),ls[j].q=f+j)(hf:f<=4611686018427387904)(ar:ls.length<=1000):
  Calls Tryz.prog 182 #[.slice a R cap,.agg (a1f i f ls.length n pa pc ra rc)] w fun e w'=>∃v s,e= .returned (.tuple #[v,.bool true])/\OwnR w' w.heap.size v s/\s.map Rc.core=ls.map Rc.core/\Below w.heap.size w w':=by
 obtain⟨c,hc⟩:=qnm ls.length;rw[<-hc] at ar⊢;have HX:=qh (aI ab (aI U (aI hc B)));obtain⟨H,hH⟩:=qnm w.heap.size;obtain⟨w0,E⟩:=qnm (w.alloc (.cells (a1f i f c n pa pc ra rc) 175));have hb0:=qba E;have aq:w0.heap[w.heap.size]? =some (.cells (a1f i f c n pa pc ra rc) 175 (0,0)):=by rw[E];exact Ae w _
 have hk:∀j,w0.cell? ⟨w.heap.size,j,none⟩=(a1f i f c n pa pc ra rc)[j]?:=fun j=>by rw[E];exact a07 _ _ _ _
 have c1:w0.cell? ⟨w.heap.size,1,none⟩=some (.int .u64 (f:Int)):=hk 1;have c2:w0.cell? ⟨w.heap.size,2,none⟩=some (.int .i64 (c:Int)):=hk 2;have an:H<w0.heap.size:=by rw[E,hH];simp
 rw[<-hH] at c1 c2;have A:=qh (aI E (aI hb0 (aI hH an)));have HF:=qh hf;clear ab U hc B E hb0 aq hk hf;unfold a1f at A⊢;go_enter Tryz.func182,Tryz.ntmps182;go_upto_region 1 with fail
 rw[<-A.out.1,<-hH];have HH:=qh hH;clear hH;have HC:=qh (aI c1 c2);go_wp2_with fail;go_loopw [0,6,7,9,10,13] (fun b al _ _ _ k wr=>∃(j m cp:Nat) (X:Option Addr) (s:List Rc),j<=c/\k= .int .i64 (j:Int)/\b= .slice X m cp/\Bs w X m cp (a3F (ls.drop j))/\m<=1000/\OwnR wr w0.heap.size al s/\s.map Rc.core=(ls.take j).map Rc.core/\Below w.heap.size w wr/\Below w0.heap.size w0 wr) (fun _ _ _ _ _ k _=>c - (intOf k).toNat);case atStart=>
  exact⟨0,R,cap,a,[],AH _,rfl,rfl,by simpa using HX.out.2.2.2,hl,OwnR.nil _ _,rfl,A.out.2.1,Ab _ _⟩
 case round=>
  obtain⟨j,m,cp,X,s,hj,rfl,rfl,B,hm,Q,o,l,d⟩:=hrel;have J:=HX.out.2.2.1;have c1:=(d.cell (p:=⟨H,1,none⟩) A.out.2.2.2).trans HC.out.1;by_cases a9:j<c
  ·have D:j<ls.length:=by rw[<-J];exact a9
   have Y:=Bm D;have y:=BH D;have C:=HX.out.1 _ (AE D);have O:=HX.out.2.1 j D;generalize ls[j]'D=r at Y y C O;obtain⟨rk,t,ap,rm,af,ys⟩:=r;simp only at C O;obtain⟨K,rfl⟩:∃K:Nat,rk=(K:Int):=⟨rk.toNat,by have:=C.2.2;omega⟩
   have aa:ys.length<=65535:=by have:=C.2.1;omega
   have a5:Rc.bytes ⟨(K:Int),t,ap,rm,af,ys⟩=a1i K t ys:=rfl;rw[Y,a9F,a5] at B;have a1:=a2b K t ys aa;obtain⟨ac,x,L,ag,aj⟩:=b3v K t ys (a3F (ls.drop (j+1))) C;have HD:=qh (b1T X m cp _ wr (B.below l) (by unfold big;omega));have a2:=B.1;rw[Af,a1] at a2;obtain⟨z,hz⟩:=qnm (15+ys.length);have ao:z<=m:=by omega
   have u:=B.drop ao;rw[Cl (by rw[a1,hz])] at u;obtain⟨ad2,ae⟩:∃ad2,(if cp=z then X else X.map (·.add z))=ad2:=⟨_,rfl⟩
   rw[ae] at u;obtain⟨m2,P⟩:=qnm (m - z);obtain⟨Z,ai⟩:=qnm (cp - z);rw[<-P,<-ai] at u;have I:s.length=j:=by
    have:=An List.length o;simp only[AC,Av] at this;omega
   obtain⟨oa,oc,rfl,_⟩:=Q.recs I;have hE:Calls Tryz.prog 248 #[.slice X m cp] wr fun e w'=>(∃v,e= .returned (.tuple #[.agg #[.int .i64 (K:Int),.int .u64 (t:Int),v],.int .i64 (z:Int),.int .i64 0])/\Own w' wr.heap.size v ys)/\Below wr.heap.size wr w':=by
    refine HD.out.mono ?_;rintro e w' ⟨hp,hb⟩;refine⟨?_,hb⟩;rcases hp with⟨_,v,he,ho⟩ | ⟨hn,_⟩
    ·rw[x,L,aj] at he;rw[ag] at ho;refine⟨v,?_,ho⟩;rw[he];unfold b0Z;rw[show((11+ys.length:Nat):Int)+4=(z:Int) by omega]
    ·exact absurd ac hn
   have HE:=qh hE;obtain⟨ym,G⟩:∃ym,ys.length=ym:=⟨_,rfl⟩
   have ah:t=f+j:=O;have ay:t<=4611686018427388904:=by have:=HF.out;omega
   have HR:=qh (aI G (aI y (aI u (aI I (aI o (aI Q (aI l (aI d (aI B (aI a2 P))))))))));have aw:=qh ah;have e1:(0:Int)<=(j:Int):=by omega
   have e2:(j:Int)<(c:Int):=by omega
   obtain⟨j2,F⟩:=qnm (j+1);have e3:IntKind.i64.wrap ((j:Int)+1)=(j2:Int):=by rw[Ak _ (by omega)];omega
   have e4:IntKind.u64.wrap (j:Int)=(j:Int):=Bb _ (by omega);have e5:IntKind.u64.wrap ((f:Int)+(j:Int))=(t:Int):=by rw[Bb _ (by omega)];omega
   have am:m2+z=m:=by omega
   have HJ:=qh (aI F am);have av:m<=cp:=B.2.1;have au:cp<=maxLen:=B.2.2.1;have ak:Z+z=cp:=by omega
   clear Y y C O B a5 a1 ac x L ag aj HD a2 u I o Q l d J D hE G ah F hj aa hz;go_wp2_with fail;refine HE.out.mono ?_;rintro e w1 ⟨⟨v,rfl,ho⟩,hb1⟩;obtain⟨W,T,rfl,_⟩:=ho.bsn HR.out.1;obtain⟨w2,x⟩:=qnm (w1.alloc (.cells #[.int .i64 (K:Int),.int .u64 (t:Int),.slice W ym T] a2U));obtain⟨G,y,u,I,o,Q,l,d,_⟩:=HR.out;have hb2:=qba x;have g:Below wr.heap.size wr w2:=hb1.trans (hb2.mono hb1.size);have c1:=(g.cell (p:=⟨H,1,none⟩) (Ai A.out.2.2.2 d.size)).trans c1;obtain⟨M1,a3⟩:=qnm w1.heap.size;have S:w2.heap[M1]? =some (.cells #[.int .i64 (K:Int),.int .u64 (t:Int),.slice W ym T] a2U (0,0)):=by rw[x,a3];exact Ae w1 _
   have d0:w2.cell? ⟨M1,0,none⟩=some (.int .i64 (K:Int)):=a0a S 0;have d1:w2.cell? ⟨M1,1,none⟩=some (.int .u64 (t:Int)):=a0a S 1;have d2:w2.cell? ⟨M1,2,none⟩=some (.slice W ym T):=a0a S 2;obtain⟨v',w4,a8,a7,a0,_⟩:=a4C (w:=w2) w0.heap.size (.slice oa j oc) s (Q.below g) ⟨(K:Int),t,W,ym,T,ys⟩ (show t<18446744073709551616 by omega) G ((ho.below hb2).base d.size) a4r (by omega) (d.trans (g.mono d.size)).size;have M:Below w2.heap.size w2 (w2.alloc (.cells #[.int .i64 (K:Int),.int .u64 (t:Int),.slice W ym T] a2U)):=(Ab _ _).alloc (Aa _) _;have N:=Q.lt;have H4:=qh (show OwnR w4 w0.heap.size v' (s ++[⟨(K:Int),t,W,ym,T,ys⟩])/\Below w.heap.size w w4/\Below w0.heap.size w0 w4 from by
    have L:Below w.heap.size w (w2.alloc (.cells #[.int .i64 (K:Int),.int .u64 (t:Int),.slice W ym T] a2U)):=(l.trans (g.mono l.size)).trans (M.mono (l.trans (g.mono l.size)).size);have V:Below w0.heap.size w0 (w2.alloc (.cells #[.int .i64 (K:Int),.int .u64 (t:Int),.slice W ym T] a2U)):=(d.trans (g.mono d.size)).trans (M.mono (d.trans (g.mono d.size)).size);exact⟨a7,L.grown a0 L.size (fun k hk=>Ad A.out.2.1.size (N k hk).1),V.grown a0 V.size (fun k hk=>(N k hk).1)⟩)
   have a6:=qh (aI x a3);clear hb1 ho hb2 g G y u I o Q l d S a7 a0 M N x a3;go_upto_region 6 with fail
   rw[<-a6.out.1];rw[<-a6.out.2];have ax:((t:Int) != (t:Int))=false:=bne_self_eq_false _;have g1:(0:Int)<=(z:Int):=by omega
   have g2:(z:Int)<=(m:Int):=by omega
   go_upto_region 8 with fail
   go_wp2_with (at_builtin;refine a43 rfl _ _ _ rfl _ _ _ rfl rfl a8 ?_);go_roundw;case rel=>
    obtain⟨h1,h2,h3⟩:=H4.out;obtain⟨_,y,u,_,o,_,_,_,_,_,P⟩:=HR.out;have F:=HJ.out.1;refine⟨j2,m2,Z,ad2,_,by omega,rfl,?_,?_,by omega,h1,?_,h2,h3⟩
    ·rw[P,show cp - z=Z by omega]
    ·rw[F];exact u
    ·rw[F,<-y,AZ,AZ,o];rfl
   case measure=>
    have F:=HJ.out.1;show c - (j2:Int).toNat<c - (j:Int).toNat;omega
  ·obtain rfl:j=c:=by omega
   clear a9;have hd:ls.drop j=[]:=Bh (by rw[J];exact Aa _);have ht:ls.take j=ls:=Am (by rw[J];exact Aa _);rw[hd] at B;rw[ht] at o;obtain rfl:m=0:=by have:=B.1;simpa[a3F] using this.symm
   have a4:=qh (aI Q (aI o l));clear hd ht B Q o l d J c1;go_wp2_with fail;go_ret2;exact⟨_,s,rfl,a4.out.1.grownTo A.out.2.1.size,a4.out.2.1,a4.out.2.2⟩
end
section
open Go.RowKit Go.ChangeMaps Go.MapKept
theorem a7W{w w':World}{s t i c:Nat}{l m g n e k f j:Option Addr}(h:w.cell? ⟨s,0,none⟩=some (Value.pointer (some ⟨t,0,none⟩))/\w.cell? ⟨s,1,none⟩=some (Value.pointer (some ⟨i,0,none⟩))/\w.cell? ⟨s,2,none⟩=some (Value.int .u64 (c:Int))/\w.cell? ⟨s,3,none⟩=some (Value.pointer l)/\w.cell? ⟨s,4,none⟩=some (Value.pointer m)/\w.cell? ⟨s,5,none⟩=some (Value.pointer g)/\w.cell? ⟨s,6,none⟩=some (Value.pointer n)/\w.cell? ⟨s,7,none⟩=some (Value.pointer e)/\w.cell? ⟨s,8,none⟩=some (Value.pointer k)/\w.cell? ⟨s,9,none⟩=some (Value.pointer f)/\w.cell? ⟨s,10,none⟩=some (Value.pointer j))(b:s<w.heap.size)(a:Below w.heap.size w w'):w'.cell? ⟨s,0,none⟩=some (Value.pointer (some ⟨t,0,none⟩))/\w'.cell? ⟨s,1,none⟩=some (Value.pointer (some ⟨i,0,none⟩))/\w'.cell? ⟨s,2,none⟩=some (Value.int .u64 (c:Int))/\w'.cell? ⟨s,3,none⟩=some (Value.pointer l)/\w'.cell? ⟨s,4,none⟩=some (Value.pointer m)/\w'.cell? ⟨s,5,none⟩=some (Value.pointer g)/\w'.cell? ⟨s,6,none⟩=some (Value.pointer n)/\w'.cell? ⟨s,7,none⟩=some (Value.pointer e)/\w'.cell? ⟨s,8,none⟩=some (Value.pointer k)/\w'.cell? ⟨s,9,none⟩=some (Value.pointer f)/\w'.cell? ⟨s,10,none⟩=some (Value.pointer j):=by
 obtain⟨u,r,z,h3,x,A,y,o,v,q,d⟩:=h;exact⟨(a.cell (p:=⟨s,0,none⟩) b).trans u,(a.cell (p:=⟨s,1,none⟩) b).trans r,(a.cell (p:=⟨s,2,none⟩) b).trans z,(a.cell (p:=⟨s,3,none⟩) b).trans h3,(a.cell (p:=⟨s,4,none⟩) b).trans x,(a.cell (p:=⟨s,5,none⟩) b).trans A,(a.cell (p:=⟨s,6,none⟩) b).trans y,(a.cell (p:=⟨s,7,none⟩) b).trans o,(a.cell (p:=⟨s,8,none⟩) b).trans v,(a.cell (p:=⟨s,9,none⟩) b).trans q,(a.cell (p:=⟨s,10,none⟩) b).trans d⟩
theorem SnapsAt.weaken{w:World}{L B B' C d:Nat}{S:SnS}(h:SnapsAt w L B C d S)(e:B'<=B):SnapsAt w L B' C d S:=by
 obtain⟨f,n,j,o,l,m,h3,a,b⟩:=h;refine⟨Ad e f,n,j,o,l,m,h3,?_,b⟩;refine⟨a.1,?_⟩;rcases a.2 with a | ⟨g,cap,c,b,k,i⟩
 ·exact .inl a
 ·exact .inr ⟨g,cap,c,b,Ad e k,i⟩
def a0R:StM:=⟨[(0,a0n 0 2)],b5S,0,fun _=>none⟩
theorem b28(w:World)(L:Nat)(l:L<=w.heap.size):
  Calls Tryz.prog 61 #[] w fun e w'=>∃s,e= .returned (.pointer (some ⟨s,0,none⟩))/\StAt w' L L w'.heap.size s a0R/\Below w.heap.size w w':=by
 have k:=qh (b5j L w);go_enter Tryz.func61,Tryz.ntmps61;go_wp2_with fail;refine k.out.mono ?_;rintro e m ⟨h,rfl,f,hb1⟩;go_wp2_with fail;refine(b5t m L w.heap.size).mono ?_;rintro e w2 ⟨c,rfl,g,hb2⟩;have a:Below w.heap.size w w2:=hb1.trans (hb2.mono hb1.size);have b:=(Ab w2.heap.size w2).alloc (Aa _) (.cells (stC h c 0 (fun _=>none)) TState);have d:=a.trans (b.mono a.size);have j:=qh (aI (show StAt (w2.alloc (.cells (stC h c 0 (fun _=>none)) TState)) L L (w2.alloc (.cells (stC h c 0 (fun _=>none)) TState)).heap.size w2.heap.size a0R from by
  refine StAt.frozen (B:=w.heap.size) (C:=w.heap.size) ⟨h,c,fun _=>none,?_⟩ l;exact⟨a.size,Ae w2 _,(f.below hb2).below b,(g.weaken hb1.size).below a.size b,fun _ _ _=>rfl,fun i o _ n=>by simp[a0R] at n⟩) d)
 clear f hb1 g hb2 a b d;go_wp2_with fail;go_ret;exact⟨_,rfl,j.out.1,j.out.2⟩
theorem a69{w:World}{L B s t V c:Nat}{z:Nat->Option Nat}{N:StM}(h:StIn w L B w.heap.size s t V z N)(ok:TrOk c N.T)(hc:c<=60000)(hl:N.S.l.length<=8)(hL:L<=w.heap.size):
  Calls Tryz.prog 35 #[.pointer (some ⟨s,0,none⟩)] w fun e w'=>∃s' t' Z,e= .returned (.pointer (some ⟨s',0,none⟩))/\StIn w' L w.heap.size w.heap.size s' t' Z z N/\Below w.heap.size w w':=by
 obtain⟨mb,F,G,hT⟩:=h.tree;have a0:Below w.heap.size w w.drew:=(Ab _ w).drew;have X:=qh (fun w' (R:Below w.heap.size w w')=>a4y (hT.below R) ok hc (Ad hL R.size));have Y:=qh (fun w' (R:Below w.heap.size w w')=>a8R (h.snaps.below (Aa _) R) R.size hl);have C:=qh h.lt;have HX:=qh h;obtain⟨H,y⟩:=qnm ((z 0).map (fun g=>(⟨g,0,none⟩:Addr)));obtain⟨P,q⟩:=qnm ((z 1).map (fun g=>(⟨g,0,none⟩:Addr)));obtain⟨J,m⟩:=qnm ((z 2).map (fun g=>(⟨g,0,none⟩:Addr)));obtain⟨E,n⟩:=qnm ((z 3).map (fun g=>(⟨g,0,none⟩:Addr)));obtain⟨D,k⟩:=qnm ((z 4).map (fun g=>(⟨g,0,none⟩:Addr)));obtain⟨O,x⟩:=qnm ((z 5).map (fun g=>(⟨g,0,none⟩:Addr)));obtain⟨I,p⟩:=qnm ((z 6).map (fun g=>(⟨g,0,none⟩:Addr)));obtain⟨M,v⟩:=qnm ((z 7).map (fun g=>(⟨g,0,none⟩:Addr)));obtain⟨u,d⟩:=qnm N.now;have a:=h.cel;unfold stC fdV at a;rw[<-y,<-q,<-m,<-n,<-k,<-x,<-p,<-v,<-d] at a;have HQ:=qh (aI y (aI q (aI m (aI n (aI k (aI x (aI p (aI v d))))))));have c0:=a0a a 0;have c1:=a0a a 1;have c2:=a0a a 2;have c3:=a0a a 3;have c4:=a0a a 4;have c5:=a0a a 5;have c6:=a0a a 6;have c7:=a0a a 7;have c8:=a0a a 8;have c9:=a0a a 9;have a1:=a0a a 10;simp only[qge] at c0 c1 c2 c3 c4 c5 c6 c7 c8 c9 a1;clear h ok a hT a0 y q m n k x p v d;go_enter Tryz.func35,Tryz.ntmps35;go_upto_region 1 with fail
 refine a0h (fun i=>[0,1,2,3,4,5,6,7,8,9,10,11,12,13,14,15,16,17,18,19].contains i) (fun w'=>w'.cell? ⟨s,0,none⟩=some (Value.pointer (some ⟨t,0,none⟩))/\w'.cell? ⟨s,1,none⟩=some (Value.pointer (some ⟨V,0,none⟩))/\w'.cell? ⟨s,2,none⟩=some (Value.int .u64 (u:Int))/\w'.cell? ⟨s,3,none⟩=some (Value.pointer H)/\w'.cell? ⟨s,4,none⟩=some (Value.pointer P)/\w'.cell? ⟨s,5,none⟩=some (Value.pointer J)/\w'.cell? ⟨s,6,none⟩=some (Value.pointer E)/\w'.cell? ⟨s,7,none⟩=some (Value.pointer D)/\w'.cell? ⟨s,8,none⟩=some (Value.pointer O)/\w'.cell? ⟨s,9,none⟩=some (Value.pointer I)/\w'.cell? ⟨s,10,none⟩=some (Value.pointer M)) (by kernel_rfl) ?_ (fun hHeld=>?_)
 ·go_keep
 refine qtk 0 3 ?_;refine qtk 1 4 ?_;refine qtk 2 5 ?_;refine qtk 3 6 ?_;refine qtk 5 8 ?_;refine qtk 6 9 ?_;refine qtk 7 10 ?_;refine qtk 8 11 ?_;refine qtk 10 13 ?_;refine qtk 11 14 ?_;refine qtk 12 15 ?_;refine qtk 13 16 ?_;refine qtk 14 17 ?_;refine qtk 15 18 ?_;refine qtk 16 19 ?_;refine qtk 17 20 ?_;refine qone 4 fun K hK=>?_
 go_simp;refine(X.out _ (Ab _ _).drew).mono ?_;rintro e w2 ⟨W,rfl,U,hb2⟩;have hHeld:(fun w'=>w'.cell? ⟨s,0,none⟩=some (Value.pointer (some ⟨t,0,none⟩))/\w'.cell? ⟨s,1,none⟩=some (Value.pointer (some ⟨V,0,none⟩))/\w'.cell? ⟨s,2,none⟩=some (Value.int .u64 (u:Int))/\w'.cell? ⟨s,3,none⟩=some (Value.pointer H)/\w'.cell? ⟨s,4,none⟩=some (Value.pointer P)/\w'.cell? ⟨s,5,none⟩=some (Value.pointer J)/\w'.cell? ⟨s,6,none⟩=some (Value.pointer E)/\w'.cell? ⟨s,7,none⟩=some (Value.pointer D)/\w'.cell? ⟨s,8,none⟩=some (Value.pointer O)/\w'.cell? ⟨s,9,none⟩=some (Value.pointer I)/\w'.cell? ⟨s,10,none⟩=some (Value.pointer M)) w2:=a7W hHeld C.out hb2;have b:=(Ab w.heap.size w).drew.trans hb2;go_wp2_with fail;refine hK.out _ _ (fun _=>hHeld) ?_;clear hK K;refine qone 9 fun K hK=>?_
 go_simp;refine(Y.out _ b).mono ?_;rintro e w3 ⟨A,rfl,Q,hb3⟩;have hHeld:(fun w'=>w'.cell? ⟨s,0,none⟩=some (Value.pointer (some ⟨t,0,none⟩))/\w'.cell? ⟨s,1,none⟩=some (Value.pointer (some ⟨V,0,none⟩))/\w'.cell? ⟨s,2,none⟩=some (Value.int .u64 (u:Int))/\w'.cell? ⟨s,3,none⟩=some (Value.pointer H)/\w'.cell? ⟨s,4,none⟩=some (Value.pointer P)/\w'.cell? ⟨s,5,none⟩=some (Value.pointer J)/\w'.cell? ⟨s,6,none⟩=some (Value.pointer E)/\w'.cell? ⟨s,7,none⟩=some (Value.pointer D)/\w'.cell? ⟨s,8,none⟩=some (Value.pointer O)/\w'.cell? ⟨s,9,none⟩=some (Value.pointer I)/\w'.cell? ⟨s,10,none⟩=some (Value.pointer M)) w3:=a7W hHeld (Ai C.out b.size) hb3;go_wp2_with fail;refine hK.out _ _ (fun _=>hHeld) ?_;clear hK K;refine qtk 18 21 ?_;refine qone 19 fun K hK=>?_
 go_simp;have r:=(Ab w3.heap.size w3).alloc (Aa _) (.cells #[.pointer (some ⟨W,0,none⟩),.pointer (some ⟨A,0,none⟩),.int .u64 (u:Int),.pointer H,.pointer P,.pointer J,.pointer E,.pointer D,.pointer O,.pointer I,.pointer M] TState);have f:=b.trans (hb3.mono b.size);refine hK.out _ _ (fun _=>a7W hHeld (Ai C.out f.size) r) ?_;clear hK K;refine qfr 20 2 ?_;refine qdon ?_;have j:=f.trans (r.mono f.size);have HF:=qh (aI (show StIn (w3.alloc (.cells #[.pointer (some ⟨W,0,none⟩),.pointer (some ⟨A,0,none⟩),.int .u64 (u:Int),.pointer H,.pointer P,.pointer J,.pointer E,.pointer D,.pointer O,.pointer I,.pointer M] TState)) L w.heap.size w.heap.size w3.heap.size W A z N from by
  obtain⟨y,q,m,n,k,x,p,v,d⟩:=HQ.out;have hn:=Ae w3 (.cells #[.pointer (some ⟨W,0,none⟩),.pointer (some ⟨A,0,none⟩),.int .u64 (u:Int),.pointer H,.pointer P,.pointer J,.pointer E,.pointer D,.pointer O,.pointer I,.pointer M] TState);rw[y,q,m,n,k,x,p,v,d] at hn;rw[y,q,m,n,k,x,p,v,d] at r j⊢;refine⟨f.size,hn,((U.weaken (by simp)).below hb3).below r,(Q.weaken b.size).below f.size r,HX.out.no,fun i o hi ho=>?_⟩;obtain⟨g,h1,h2,h3⟩:=HX.out.fd i o hi ho;exact⟨g,h1,h2,h3.below j⟩) j)
 clear U hb2 Q hb3 b f r j hHeld HQ HX;go_wp2_with fail;go_ret;exact⟨_,_,_,rfl,HF.out.1,HF.out.2⟩
end
end Go.Proofs.YtbemfdcjieakdaaGreatDoor
