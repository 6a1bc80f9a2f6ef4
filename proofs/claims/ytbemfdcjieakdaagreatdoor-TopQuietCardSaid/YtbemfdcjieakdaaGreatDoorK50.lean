/- QArg; TopQuietWalk; ShapedAnd. -/
import Derived.Handed
import Derived.HandedShaped
import Derived.Shelf.Vars
import Derived.Test.YtbemfdcjieakdaaGreatDoorK49
set_option maxRecDepth 100000
set_option maxHeartbeats 8000000
namespace Go.Proofs.YtbemfdcjieakdaaGreatDoor
section
open Go.RowKit Go.ChangeMaps Go.MapKept
theorem b7z{l:List Value}(h:l.length=9):∃e c j b a i g f d,l=[e,c,j,b,a,i,g,f,d]:=by
 match l,h with
 | [e,c,j,b,a,i,g,f,d],_=>exact ⟨e,c,j,b,a,i,g,f,d,rfl⟩
theorem b0R(s:ByteArray):∃xs,s=a0c xs:=⟨s.data.toList,by unfold a0c;simp⟩
theorem b3d(k:Int)(ps g:List UInt8)(fd b n:Int)(til:Nat)(j:Int)(f:Option Addr)(c d:Nat)(a:c<=d)(w:World):
  Calls Tryz.prog 8 #[.agg (a0b k (a0c ps) (a0c g) fd b n til j f c d)] w fun e w'=>e= .returned (.agg (a0b k (a0c (ps.take 210)) (a0c (g.take 210)) fd b n til j f (min c 610) d))/\Below w.heap.size w w':=by
 have o:=qh (fun w=>b4B 610 f c d w a (by decide));unfold a0b;go_enter Tryz.func8,Tryz.ntmps8;go_wp2_with fail;refine(b1d ps 210 (by decide) _).mono ?_;rintro e i ⟨rfl,rfl⟩;go_wp2_with fail;refine(b1d g 210 (by decide) _).mono ?_;rintro e i ⟨rfl,rfl⟩;go_wp2_with fail;refine(o.out _).mono ?_;rintro e i ⟨rfl,rfl⟩;generalize h:min c 610=m;have l:=qh h;clear h;go_upto_region 4 with fail
 repeat go_step
 refine Aj ?_ rfl ⟨rfl,?_⟩
 ·simp[results,Tryz.results8,go_sem];exact l.out.symm
 ·exact(((Ext.refl w).alloc _).alloc _).1
theorem Can.op{w:World}{r:List Value}(h:Can Tryz.prog w 32 r):
  ∃(k:Int) (ps W:List UInt8) (fd s n:Int) (til:Nat) (S:Int) (a:Option Addr) (j cap:Nat) (xs:List UInt8),r=(a0b k (a0c ps) (a0c W) fd s n til S a j cap).toList/\til<18446744073709551616/\Bs w a j cap xs:=by
 obtain⟨G,f⟩:=h.struct Tryz.underlying32;rw[show Tryz.prog.cellsOf 32=9 by kernel_rfl] at G;obtain⟨c,b,q,i,o,g,e,d,p,rfl⟩:=b7z (l:=r) G;have X:Tryz.prog.cellsOf 3=1:=by kernel_rfl
 have r:Tryz.prog.cellsOf 9=1:=by kernel_rfl
 have L:Can Tryz.prog w 3 (([c,b,q,i,o,g,e,d,p].drop 0).take (Tryz.prog.cellsOf 3)):=f 0 _ rfl;have x:Can Tryz.prog w 9 (([c,b,q,i,o,g,e,d,p].drop 1).take (Tryz.prog.cellsOf 9)):=f 1 _ rfl;have D:Can Tryz.prog w 9 (([c,b,q,i,o,g,e,d,p].drop 2).take (Tryz.prog.cellsOf 9)):=f 2 _ rfl;have N:Can Tryz.prog w 3 (([c,b,q,i,o,g,e,d,p].drop 3).take (Tryz.prog.cellsOf 3)):=f 3 _ rfl;have z:Can Tryz.prog w 3 (([c,b,q,i,o,g,e,d,p].drop 4).take (Tryz.prog.cellsOf 3)):=f 4 _ rfl;have J:Can Tryz.prog w 3 (([c,b,q,i,o,g,e,d,p].drop 5).take (Tryz.prog.cellsOf 3)):=f 5 _ rfl;have C:Can Tryz.prog w 29 (([c,b,q,i,o,g,e,d,p].drop 6).take (Tryz.prog.cellsOf 29)):=f 6 _ rfl;have M:Can Tryz.prog w 3 (([c,b,q,i,o,g,e,d,p].drop 7).take (Tryz.prog.cellsOf 3)):=f 7 _ rfl;have I:Can Tryz.prog w 30 (([c,b,q,i,o,g,e,d,p].drop 8).take (Tryz.prog.cellsOf 30)):=f 8 _ rfl;rw[X] at L N z J M;rw[r] at x D;rw[show Tryz.prog.cellsOf 29=1 by kernel_rfl] at C;rw[show Tryz.prog.cellsOf 30=1 by kernel_rfl] at I;obtain⟨k,A,_⟩:=L.int Tryz.underlying3;obtain⟨V,y,_⟩:=x.string Tryz.underlying9;obtain⟨U,H,_⟩:=D.string Tryz.underlying9;obtain⟨P,h3,_⟩:=N.int Tryz.underlying3;obtain⟨Z,E,_⟩:=z.int Tryz.underlying3;obtain⟨O,K,_⟩:=J.int Tryz.underlying3;obtain⟨t,F,u⟩:=C.int Tryz.underlying29;obtain⟨Q,v,_⟩:=M.int Tryz.underlying3;obtain⟨a,j,cap,xs,B,T⟩:=I.bytes Tryz.underlying30 Tryz.underlying5 (by kernel_rfl);have hb:0<=t/\t<18446744073709551616:=by simp[Lit.wf,IntKind.min,IntKind.max,IntKind.bits,IntKind.signed] at u;omega
 obtain⟨m,rfl⟩:∃m:Nat,t=(m:Int):=⟨t.toNat,by omega⟩
 obtain⟨Y,rfl⟩:=b0R V;obtain⟨R,rfl⟩:=b0R U;simp at A y H h3 E K F v B;subst A y H h3 E K F v B;exact⟨k,Y,R,P,Z,O,m,Q,a,j,cap,xs,rfl,by omega,T⟩
def OpIn(w:World)(b o:Nat):Prop:=∃(k:Int) (ps e:List UInt8) (fd d n:Int) (til:Nat) (f:Int) (a:Option Addr) (c cap:Nat) (xs:List UInt8),
 (w.cell? ⟨b,o,none⟩=some (.int .i64 k)/\w.cell? ⟨b,o+1,none⟩=some (.string (a0c ps))/\w.cell? ⟨b,o+2,none⟩=some (.string (a0c e))/\w.cell? ⟨b,o+3,none⟩=some (.int .i64 fd)/\w.cell? ⟨b,o+4,none⟩=some (.int .i64 d)/\w.cell? ⟨b,o+5,none⟩=some (.int .i64 n)/\w.cell? ⟨b,o+6,none⟩=some (.int .u64 (til:Int))/\w.cell? ⟨b,o+7,none⟩=some (.int .i64 f)/\w.cell? ⟨b,o+8,none⟩=some (.slice a c cap))/\Bs w a c cap xs
theorem Arg.ops{w:World}{v:Value}(h:Arg Tryz.prog w 22 v):
  ∃(a:Option Addr) (c cap:Nat),v= .slice a c cap/\c<=cap/\cap<=maxLen/\(0<c->∃b off,a=some ⟨b,off,none⟩/\b<w.heap.size/\∀i,i<c->OpIn w b (off+i * 9)):=by
 obtain⟨a,c,cap,rfl,D⟩:=h.sliceCan Tryz.underlying22;have t:Tryz.prog.cellsOf 32=9:=by kernel_rfl
 obtain⟨H,o,l,h3,E,C,B⟩:=D.elems Tryz.underlying22 (by omega);cases h3;refine⟨a,c,cap,rfl,E,C,fun x=>?_⟩;rcases B with rfl | ⟨b,off,rfl,y,G⟩
 ·exact absurd x (Ch _)
 ·refine⟨b,off,rfl,y,fun i u=>?_⟩;obtain⟨z,F,_,e⟩:=G i u;obtain⟨k,ps,s,fd,f,n,til,r,p,q,m,xs,rfl,_,A⟩:=F.op;rw[t] at e;have d:∀j (g:j<9),w.cell? ⟨b,off+i * 9+j,none⟩=some ((a0b k (a0c ps) (a0c s) fd f n til r p q m).toList[j]'g):=fun j g=>e j g
  exact⟨k,ps,s,fd,f,n,til,r,p,q,m,xs,⟨d 0 (by omega),d 1 (by omega),d 2 (by omega),d 3 (by omega),d 4 (by omega),d 5 (by omega),d 6 (by omega),d 7 (by omega),d 8 (by omega)⟩,A⟩
theorem VQ.mono{w:World}{B0 n g m d v c e b:Nat}{S:List UInt8}{V:VltM}(h:VQ w B0 n g m d v c S V)(a:m<=e)(p:c<=b):VQ w B0 n g e d v b S V:=by
 obtain⟨B,sb,mb,j,l,i,o,iv,hv,q,k,h3,f⟩:=h;exact⟨B,sb,mb,j,l,i,o,iv,hv,q,k,⟨h3.ok,h3.lo,Ad h3.hi a,Ad h3.gen a,h3.nil,h3.room⟩,f.mono p⟩
theorem VIn.setOp{C:Array Value}{w:World}{B d sb mb n pn g v st l N:Nat}{S id:List UInt8}{j o iv hv:Value}{V:VltM}(h:VIn w B d sb mb n pn g S id v st l j o iv hv V)(m:w.heap[N]? =some (.cells C TOp (0,0)))(q:B<=N)(R:Array Value):VIn (w.setRow N R) B d sb mb n pn g S id v st l j o iv hv V:=by
 have c:Chg (fun k=>k=N) w (w.setRow N R):=⟨rfl,rfl,rfl,by simp[World.setRow],fun k _ hk=>BY w N k R hk⟩
 have a:∀k C b i,k=N->TOp≠i->w.heap[k]?≠some (.cells C i b):=fun k C b i e p f=>by rw[e] at f;exact p (a1k m f)
 exact⟨(c.block v h.lt (fun e=>a v _ _ _ e (by decide) h.cel)).trans h.cel,h.st.alien c (fun k _ e=>.inr (by rw[e];exact a4Y m ⟨by decide,by decide,by decide,by decide,by decide,by decide,by decide⟩)),
  h.log.chgs c (fun e=>a l _ _ _ e (by decide) h.log.cel) (fun k C b e=>a k C b _ e (by decide)) (fun k C b e=>a k C b _ e (by decide)),c.own h.idv (fun k hk e=>by
  obtain⟨C,b,f⟩:=h.idv.tyb k hk;exact a k C b _ e (by decide) f),h.dk.chgs c (fun e=>by have:=h.dB;omega) (fun e=>by have:=h.sB;omega) (fun e=>by have:=h.mB;omega),h.vB,h.lB,h.dB,h.sB,h.mB⟩
theorem VQ.setOp{w a:World}{B0 n g m d v c Z:Nat}{S:List UInt8}{V:VltM}{C:Array Value}(h:VQ w B0 n g m d v c S V)(o:Below w.heap.size w a)(i:w.heap.size<=Z)(k:a.heap[Z]? =some (.cells C TOp (0,0)))(R:Array Value):VQ (a.setRow Z R) B0 n g m d v c S V:=by
 obtain⟨B,sb,mb,j,l,e,f,iv,hv,b,p⟩:=h;exact⟨B,sb,mb,j,l,e,f,iv,hv,(b.below o).setOp k (Ad b.size i) R,p⟩
theorem b36{w:World}{B0 n g m d v c:Nat}{S:List UInt8}{V:VltM}(h:VQ w B0 n g m d v c S V):Calls Tryz.prog 9 #[.pointer (some ⟨d,0,none⟩)] w fun e w'=>∃y,e= .returned y/\Own w' w.heap.size y S/\Below w.heap.size w w':=by
 obtain⟨B,sb,mb,f,l,b,i,iv,hv,a,j⟩:=h;exact b2f a.dk
theorem b6T{w:World}{B0 n g m d v c:Nat}{S:List UInt8}{V:VltM}(h:VQ w B0 n g m d v c S V)(i:c<=60000):Calls Tryz.prog 10 #[.pointer (some ⟨v,0,none⟩)] w fun e w'=>∃y,e= .returned y/\Own w' w.heap.size y (a3K V.σ)/\Below w.heap.size w w':=by
 obtain⟨B,sb,mb,o,l,k,p,iv,hv,j,q,h3,a⟩:=h;refine(b1y j a i).mono ?_;rintro e w' ⟨y,rfl,b,_,f⟩;exact⟨y,rfl,b,f⟩
theorem b6Z{w:World}{B0 n g m d v c:Nat}{S:List UInt8}{V:VltM}(h:VQ w B0 n g m d v c S V):Calls Tryz.prog 11 #[.pointer (some ⟨v,0,none⟩)] w fun e w'=>∃y,e= .returned y/\Own w' w.heap.size y V.M.head/\Below w.heap.size w w':=by
 obtain⟨B,sb,mb,i,l,f,j,iv,hv,a,k,h3,b⟩:=h;exact b2M a h3.ok.hd
theorem b2L{w:World}{B0 n g m d v c:Nat}{S:List UInt8}{V:VltM}(h:VQ w B0 n g m d v c S V):Calls Tryz.prog 12 #[.pointer (some ⟨v,0,none⟩)] w fun e w'=>e= .returned (.int .i64 (V.M.wait.length:Int))/\Below w.heap.size w w':=by
 obtain⟨B,sb,mb,f,l,b,i,iv,hv,a,j⟩:=h;refine(b1x a).mono ?_;rintro e w' ⟨rfl,rfl⟩;exact⟨rfl,Ab _ _⟩
def b78(w wx:World)(n g d v j:Nat)(S:List UInt8)(V:VltM)(a:Value):Prop:=∃(Z:Nat) (k:Int) (p x:List UInt8) (fd b l:Int) (til:Nat) (h:Int) (e:Option Addr) (c f:Nat) (i:List UInt8),a= .pointer (some ⟨Z,0,none⟩)/\wx.heap[Z]? =some (.cells (a0b k (a0c p) (a0c x) fd b l til h e c f) TOp (0,0))/\p.length<=210/\x.length<=210/\c<=610/\Bs wx e c f i/\VQ wx w.heap.size n g (2+j) d v j S V/\Below w.heap.size w wx
theorem a8y(v0 v1:Value)(w:World)(h0:Arg Tryz.prog w 22 v0)(h1:Arg Tryz.prog w 3 v1)(hg:Glob w):
  Calls Tryz.prog 3 #[v0,v1] w fun e w'=>e= .returned (.bool true)/\Below w.heap.size w w':=by
 obtain⟨oa,on,oc,rfl,bM,bd,hO⟩:=h0.ops;obtain⟨z,rfl,_⟩:=h1.int Tryz.underlying3;have aO:=qh (a45 z 0 300 w (by omega) (by omega) (by omega));obtain⟨qn,b9,bO⟩:∃qn:Nat,a2e z 0 300=(qn:Int)/\qn<=300:=by
  have a:=a5W z 0 300 (by omega);exact⟨(a2e z 0 300).toNat,by omega,by omega⟩
 rw[b9] at aO;obtain⟨g,ba⟩:=qnm (((64+qn) - 1 - 2 * ((64+qn) / 4)) / 8);have a:=qbegin_ok (64+qn) g (by omega) (by omega) ba w;rw[show(((64+qn:Nat)):Int)=64+(qn:Int) by omega] at a;obtain⟨n,hn⟩:=qnm (64+qn);rw[<-hn] at a;have HB:=qh a;have bh:=qh hg;have HO:=qh hO;have bI:oc<=9223372036854775807:=Ad bd (by unfold maxLen;decide);clear h0 h1 a hg hO b9 ba hn bd;go_enter Tryz.func3,Tryz.ntmps3;go_wp2_with fail;refine aO.out.mono ?_;rintro e w0 ⟨rfl,rfl⟩;go_wp2_with fail;refine HB.out.mono ?_;rintro e w1 ⟨⟨d,v,x,S,V,rfl,hK,hP,-,-⟩,hb1⟩;have HP:=qh hP;have H1:=qh (aI hK hb1);clear hK hP hb1 HB aO;go_wp2_with fail;go_loopw [8] (fun i wr=>∃(j:Nat) (S:List UInt8) (V:VltM),j<=40/\i= .int .i64 (j:Int)/\VQ wr w.heap.size n g (2+j) d v j S V/\Below w.heap.size w wr) (fun i _=>40 - (intOf i).toNat);case atStart=>exact ⟨0,S,V,by omega,rfl,H1.out.1,H1.out.2⟩
 case round=>
  clear H1;obtain⟨j,S,V,hj,rfl,hK,aL⟩:=hrel;have N:=qh (b4S wr (bh.out.below aL));have o:=qh aL;have HK:=qh hK;clear aL hK;by_cases aE:j<on;rotate_left
  ·have e1:¬(j:Int)<(on:Int):=by omega
   clear aE;go_wp2_with fail;refine N.out.mono ?_;rintro e w' ⟨rfl,a3⟩;have HF:=qh (o.out.trans (a3.mono o.out.size));clear a3;go_wp2_with fail;go_ret;exact⟨rfl,HF.out⟩
  have e1:(j:Int)<(on:Int):=by omega
  by_cases bG:j<40;rotate_left
  ·have e2:¬(j:Int)<40:=by omega
   clear aE bG;go_wp2_with fail;refine N.out.mono ?_;rintro e w' ⟨rfl,a3⟩;have HF:=qh (o.out.trans (a3.mono o.out.size));clear a3;go_wp2_with fail;go_ret;exact⟨rfl,HF.out⟩
  have e2:(j:Int)<40:=by omega
  have e0:(0:Int)<=(j:Int):=by omega
  clear N;obtain⟨b,off,rfl,f,bi⟩:=HO.out (by omega);obtain⟨k,ps,ts,fd,m,nn,til,sn,J,dl,I,ds,⟨c0,c1,c2,c3,c4,c5,c6,c7,c8⟩,hD⟩:=bi j aE;have az:=hD.2.1;have bJ:=Ai f o.out.size;have aF:=qh (show ∀W,Below w.heap.size w W->W.cell? ⟨b,off+j * 9,none⟩=some (.int .i64 k)/\W.cell? ⟨b,off+j * 9+1,none⟩=some (.string (a0c ps))/\W.cell? ⟨b,off+j * 9+2,none⟩=some (.string (a0c ts))/\W.cell? ⟨b,off+j * 9+3,none⟩=some (.int .i64 fd)/\W.cell? ⟨b,off+j * 9+4,none⟩=some (.int .i64 m)/\W.cell? ⟨b,off+j * 9+5,none⟩=some (.int .i64 nn)/\W.cell? ⟨b,off+j * 9+6,none⟩=some (.int .u64 (til:Int))/\W.cell? ⟨b,off+j * 9+7,none⟩=some (.int .i64 sn)/\W.cell? ⟨b,off+j * 9+8,none⟩=some (.slice J dl I) from fun W a=>
   ⟨(a.cell (p:=⟨b,off+j * 9,none⟩) f).trans c0,(a.cell (p:=⟨b,off+j * 9+1,none⟩) f).trans c1,(a.cell (p:=⟨b,off+j * 9+2,none⟩) f).trans c2,(a.cell (p:=⟨b,off+j * 9+3,none⟩) f).trans c3,(a.cell (p:=⟨b,off+j * 9+4,none⟩) f).trans c4,(a.cell (p:=⟨b,off+j * 9+5,none⟩) f).trans c5,(a.cell (p:=⟨b,off+j * 9+6,none⟩) f).trans c6,(a.cell (p:=⟨b,off+j * 9+7,none⟩) f).trans c7,(a.cell (p:=⟨b,off+j * 9+8,none⟩) f).trans c8⟩)
  have aD:=qh (b5m k (a0c ps) (a0c ts) fd m nn til sn J dl I az wr);have aK:=qh (fun W=>b3d k ps ts fd m nn til sn J dl I az W);have HD:=qh hD;clear c0 c1 c2 c3 c4 c5 c6 c7 c8 bi hD;obtain⟨c0,c1,c2,c3,c4,c5,c6,c7,c8⟩:=aF.out wr o.out;unfold a2m a0b at aD;unfold a0b at aK;go_wp2_with fail;refine aD.out.mono ?_;rintro e w2 ⟨⟨p1,p2,aj,rfl,b6,b5,-⟩,hb2⟩;have aq:min dl 40<=dl:=Nat.min_le_left _ _;have aV:min dl 40<=610:=by omega
  generalize min dl 40=m4 at *;generalize a2e fd 0 3=ap at *;generalize a2e m 0 50=ao at *;generalize a2e nn 0 60=am at *;generalize til % 12=F at *;obtain⟨w3,a7⟩:=qnm (w2.alloc (.cells (a0b k (a0c p1) (a0c p2) ap ao am F aj J m4 I) TOp));obtain⟨Z,hZ⟩:=qnm w2.heap.size;have hb3:=qba a7;have a9:w3.heap[Z]? =some (.cells (a0b k (a0c p1) (a0c p2) ap ao am F aj J m4 I) TOp (0,0)):=by rw[a7,hZ];exact Ae _ _
  have E:=hb2.trans (hb3.mono hb2.size);have h:=qh (o.out.trans (E.mono o.out.size));have b8:=qh (HK.out.below E);have aZ:=qh (HD.out.below h.out);have al:=qh (aI a9 (show w.heap.size<=Z from by rw[hZ];exact Ad o.out.size hb2.size));have aC:=qh (aI aq aV);have ae:=qh (aI HK.out (aI E (show wr.heap.size<=Z from by rw[hZ];exact hb2.size)));have aH:=qh (aI b6 b5);unfold a0b at a7;have aT:=qh (aI a7 hZ);clear c0 c1 c2 c3 c4 c5 c6 c7 c8 hb2 hb3 a9 E a7 hZ aq aV b6 b5 aD HK o;obtain⟨c0,c1,c2,c3,c4,c5,c6,c7,c8⟩:=aF.out w3 h.out;have bl:=Ai f h.out.size;go_upto_region 8 with fail
  rw[<-aT.out.1,<-aT.out.2];clear aT;go_cut [46] (fun y wx=>y= .bool (m.tmod 3 == 0)/\wx=w3);case first=>
   go_wp2_with fail;go_meet;exact⟨rfl,rfl⟩
  case rest=>
  obtain⟨hy,bj⟩:=hcut;subst hy;rw[bj];clear bj wc;go_step;go_cut [9] (fun y wx=>b78 w wx n g d v j S V y);case first=>
   cases bQ:m.tmod 3 == 0 with
   | false=>
    have aP:=qh (show b78 w w3 n g d v j S V (.pointer (some ⟨Z,0,none⟩)) from⟨Z,k,p1,p2,ap,ao,am,F,aj,J,m4,I,ds.take m4,rfl,al.out.1,by have:=aH.out;omega,by have:=aH.out;omega,aC.out.2,aZ.out.take aC.out.1,b8.out,h.out⟩);go_wp2_with fail;go_meet;exact aP.out
   | true=>
    have a9:=al.out.1;go_wp2_with fail;refine(aK.out w3).mono ?_;rintro e w4 ⟨rfl,hb4⟩;have au:min dl 610<=dl:=Nat.min_le_left _ _;have b4:min dl 610<=610:=Nat.min_le_right _ _;have aY:(ps.take 210).length<=210:=by rw[Av];exact Nat.min_le_left _ _
    have bm:(ts.take 210).length<=210:=by rw[Av];exact Nat.min_le_left _ _
    generalize min dl 610=m6 at *;generalize ps.take 210=a0 at *;generalize ts.take 210=a5 at *;have aA:=(hb4.block Z (ltH a9)).trans a9;have bo:=ae.out.1.setOp (ae.out.2.1.trans (hb4.mono ae.out.2.1.size)) ae.out.2.2 aA (a0b k (a0c a0) (a0c a5) fd m nn til sn J m6 I);have D:Below w.heap.size w (w4.setRow Z (a0b k (a0c a0) (a0c a5) fd m nn til sn J m6 I)):=a0u (h.out.trans (hb4.mono h.out.size)) al.out.2;have aP:=qh (show b78 w (w4.setRow Z (a0b k (a0c a0) (a0c a5) fd m nn til sn J m6 I)) n g d v j S V (.pointer (some ⟨Z,0,none⟩)) from⟨Z,k,a0,a5,fd,m,nn,til,sn,J,m6,I,ds.take m6,rfl,AF _ _ _ _ TOp (0,0) aA,aY,bm,b4,(HD.out.below D).take au,bo,D⟩);clear hb4 bo D au b4 aY bm;go_wp2_with (refine Ao rfl TOp (.tmp 9) (.tmp 51) rfl Z (a0b k (a0c a0) (a0c a5) fd m nn til sn J m6 I) rfl rfl TOp (a0b k (a0c p1) (a0c p2) ap ao am F aj J m4 I) aA (by kernel_rfl) (by kernel_rfl) (by kernel_rfl) ?_);go_meet;exact aP.out
  case rest=>
  obtain⟨Z',k',p',x',bH,bB,bE,bk,bu,bz,bw,bD,bx,hy,hz,bb,bc,bf,aS,aG,aM⟩:=hcut;subst hy;obtain⟨w4,bs⟩:=qnm wc;rw[<-bs] at hz aS aG aM⊢;have G:=qh (aI hz (aI bb (aI bc (aI bf aS))));have C:=qh (aI aG aM);clear bs wc hz bb bc bf aS aG aM h b8 aZ aC ae aH al c0 c1 c2 c3 c4 c5 c6 c7 c8 bl aF aK HD;obtain⟨sl,bp⟩:∃sl,S.length=sl:=⟨_,rfl⟩
  obtain⟨vl,b7⟩:∃vl,(a3K V.σ).length=vl:=⟨_,rfl⟩
  obtain⟨hl,bn⟩:∃hl,V.M.head.length=hl:=⟨_,rfl⟩
  have H:=qh (aI bp (aI b7 bn));have ax:j<=60000:=by omega
  clear bp b7 bn;have t:=Ext.refl w4;go_upto_region 10 with fail
  obtain⟨w5,aR⟩:=qnm w4.drew;have a:Below w4.heap.size w4 w5:=by rw[aR];exact(Ab _ _).drew
  have t:=t.step a;clear a;refine a2J (by kernel_rfl) (fun hHeld=>?_);rw[<-aR] at hHeld⊢;clear aR;refine qth 0 52 ?_;refine qth 3 55 ?_;refine qth 6 58 ?_;refine qth 9 61 ?_;refine Bx (rs:=[1]) (by kernel_rfl) (by simp) ?_;refine AO rfl (fun K hK=>?_) Bj;go_simp;refine(b36 (C.out.1.below t.1)).mono ?_;rintro e w6 ⟨y1,rfl,R,a⟩;have t:=t.step a;obtain⟨b1,k1,rfl,ak⟩:=R.bsn H.out.1;clear R;go_wp2_with fail;refine hK.out _ _ a (fun _=>a2r a (fun hHeld2=>?_));clear hK hHeld a;have hHeld:=hHeld2;clear hHeld2 K;refine qth 2 54 ?_ (hy:=Or.inl ⟨by rfl,by intro w A;(try dsimp only at A);have hs:=a09 (ak.below A);go_simp;(try with_reducible rfl)⟩);refine Bx (rs:=[4]) (by kernel_rfl) (by simp) ?_;refine AO rfl (fun K hK=>?_) Bj;go_simp;refine(b6T (C.out.1.below t.1) ax).mono ?_;rintro e w7 ⟨y2,rfl,T,a⟩;have t:=t.step a;obtain⟨b2,k2,rfl,ai⟩:=T.bsn H.out.2.1;clear T;go_wp2_with fail;refine hK.out _ _ a (fun _=>a2r a (fun hHeld2=>?_));clear hK hHeld a;have hHeld:=hHeld2;clear hHeld2 K;refine qth 5 57 ?_ (hy:=Or.inl ⟨by rfl,by intro w A;(try dsimp only at A);have hs:=a09 (ai.below A);go_simp;(try with_reducible rfl)⟩);refine Bx (rs:=[7]) (by kernel_rfl) (by simp) ?_;refine AO rfl (fun K hK=>?_) Bj;go_simp;refine(b6Z (C.out.1.below t.1)).mono ?_;rintro e w8 ⟨y3,rfl,Q,a⟩;have t:=t.step a;obtain⟨b3,k3,rfl,an⟩:=Q.bsn H.out.2.2;clear Q;go_wp2_with fail;refine hK.out _ _ a (fun _=>a2r a (fun hHeld2=>?_));clear hK hHeld a;have hHeld:=hHeld2;clear hHeld2 K;refine qth 8 60 ?_ (hy:=Or.inl ⟨by rfl,by intro w A;(try dsimp only at A);have hs:=a09 (an.below A);go_simp;(try with_reducible rfl)⟩);refine Bx (rs:=[10]) (by kernel_rfl) (by simp) ?_;refine AO rfl (fun K hK=>?_) Bj;go_simp;refine(b2L (C.out.1.below t.1)).mono ?_;rintro e w9 ⟨rfl,a⟩;have t:=t.step a;go_wp2_with fail;refine hK.out _ _ a (fun _=>a2r a (fun hHeld2=>?_));clear hK hHeld a;have hHeld:=hHeld2;clear hHeld2 K;refine qth 11 10 ?_;refine qth 12 11 ?_;refine qth 13 12 ?_;refine qth 14 13 ?_;refine Bn (by kernel_rfl) ?_ _;have aQ:=C.out.2.trans (t.1.mono C.out.2.size);have aU:=(t.1.block Z' (ltH G.out.1)).trans G.out.1;have br:=ltH aU;obtain⟨o0,o1,o2,o3,o4,o5,o6,o7,o8⟩:=a0A aU;have aN:=qh (q_any (C.out.1.below t.1) HP.out (by omega) (by omega) (bh.out.below aQ) k' p' x' bH bB bE bk bu bz bw bD bx (G.out.2.2.2.2.below t.1) G.out.2.1 G.out.2.2.1 G.out.2.2.2.1);have bA:=qh aQ;unfold a0b at aN;clear t hHeld ak ai an aQ aU;go_upto_region 11 with fail
  go_wp2_with fail;refine aN.out.mono ?_;rintro e w10 ⟨⟨er,nr,a1,n1,j1,a2,n2,j2,nd,rfl,hr⟩,av⟩;obtain⟨bF,B⟩:=qnm (w10.alloc (.cells (rpC er nr (.slice a1 n1 j1) (.slice a2 n2 j2) nd) TReply));obtain⟨Y,hY⟩:=qnm w10.heap.size;have ad:=qba B;have aw:bF.heap[Y]? =some (.cells (rpC er nr (.slice a1 n1 j1) (.slice a2 n2 j2) nd) TReply (0,0)):=by rw[B,hY];exact Ae _ _
  have D:Below w.heap.size w w10:=bA.out.trans av.1;have b0:=qh (D.trans (ad.mono D.size));have ar:=qh ad;have ay:=qh aw;unfold rpC at B;have L:=qh (aI B hY);clear ad aw D B hY av aN o0 o1 o2 o3 o4 o5 o6 o7 o8 br;unfold rpC;go_upto_region 12 with fail
  rw[<-L.out.1,<-L.out.2];clear L;obtain⟨r0,r1,r2,r3,-⟩:=a11 ay.out;rcases hr with⟨he,rfl,rfl,rfl,P⟩ | ⟨rfl,S',V',P⟩
  rotate_left
  ·have bt:=qh (P.below ar.out);clear P;go_wp2_with fail;go_roundw;case rel=>exact ⟨j+1,S',V',by omega,by go_num,bt.out,b0.out⟩
   case measure=>simp [intOf];omega
  ·have O:=qh (P.below ar.out);have ac:=qh ay.out;have a8:=qh b0.out;have q1:(!((a0c S).toList == (a0c S).toList))=false:=by simp
   have q2:(!((a0c (a3K V.σ)).toList == (a0c (a3K V.σ)).toList))=false:=by simp
   have q3:(!((a0c V.M.head).toList == (a0c V.M.head).toList))=false:=by simp
   clear P;have bg:=qh (b36 O.out);go_wp2_with fail;refine bg.out.mono ?_;rintro e bN ⟨y1,rfl,R,s⟩;obtain⟨b1,k1,rfl,ak⟩:=R.bsn H.out.1;have bP:=a09 ak;clear R;have l:=ltH ac.out;have c:=(s.block Y l).trans ac.out;have af:=qh c;have X:=qh (O.out.below s);have ab:=qh (a8.out.trans (s.mono a8.out.size));obtain⟨r0,r1,r2,r3,-⟩:=a11 c;clear s l c bg;have aX:=qh (b6T X.out ax);go_wp2_with fail;refine aX.out.mono ?_;rintro e bR ⟨y2,rfl,T,u⟩;obtain⟨b2,k2,rfl,ai⟩:=T.bsn H.out.2.1;have bT:=a09 ai;clear T;have l:=ltH af.out;have c:=(u.block Y l).trans af.out;have aa:=qh c;have a6:=qh (X.out.below u);have ah:=qh (ab.out.trans (u.mono ab.out.size));obtain⟨r0,r1,r2,r3,-⟩:=a11 c;clear u l c aX;have bq:=qh (b6Z a6.out);go_wp2_with fail;refine bq.out.mono ?_;rintro e bL ⟨y3,rfl,Q,q⟩;obtain⟨b3,k3,rfl,an⟩:=Q.bsn H.out.2.2;have bS:=a09 an;clear Q;have l:=ltH aa.out;have c:=(q.block Y l).trans aa.out;have a4:=qh c;have ag:=qh (a6.out.below q);have U:=qh (ah.out.trans (q.mono ah.out.size));obtain⟨r0,r1,r2,r3,-⟩:=a11 c;clear q l c bq;have aW:=qh (b2L ag.out);go_wp2_with fail;refine aW.out.mono ?_;rintro e bK ⟨rfl,r⟩;have l:=ltH a4.out;have c:=(r.block Y l).trans a4.out;have bC:=qh c;have aJ:=qh (ag.out.below r);have aB:=qh (U.out.trans (r.mono U.out.size));obtain⟨r0,r1,r2,r3,-⟩:=a11 c;clear r l c aW;go_wp2_with fail;go_roundw;case rel=>exact ⟨j+1,S,V,by omega,by go_num,aJ.out.mono (by omega) (by omega),aB.out⟩
   case measure=>simp [intOf];omega
end
section
open Go.RowKit
theorem a6Z{W:World}(h:W.ShapedOpen Tryz.prog):Glob W:=
 cell_of_shapedOpen_int (g:=2) (t:=3) (zero:=#[.int .i64 0]) (k:=.i64) h (BD (by kernel_rfl)) (by kernel_rfl) rfl (by kernel_rfl) (by kernel_rfl) Tryz.underlying3
theorem a1X{H:Type}{enc:TypeId×Value->H}{a:Assume}{C:Checked}{os:Os}{f:FuncId}{fn:Func}{s:ChangeSpec}{h:List PathCond}{b l g n:Bool}{X:World->Array Value->Prop}
  (K:∀(w w':World) (args:Array Value),w.heap=w'.heap->X w args->X w' args)
  (own:ownKnob C.prog.godebug=none) (m:os.Started) (q:C.prog.inits.idxOf? f=none) (D:C.prog.funcs[f]? =some fn)
  (o:∃(w:World) (c:Tape) (i:Input),w.os=os/\(w.forCall c i).Shaped C.prog/\i.vars=[]/\Input.okWide C.prog (w.forCall c i) .any w.heap.size f i/\
   ((s.pre enc C.prog fn h b (w.forCall c i).memory i.args/\X (w.forCall c i).memory i.args)/\sizedMet enc C.prog fn (OpenSpec.ofChange s) b (w.forCall c i).memory i.args)/\a.holds C.prog (lone (Frame.enter C.prog f i.args .normal) [] (w.forCall c i)))
  (k:∀(W:World) (z:Nat) (args:Array Value) (r x:List (DataW H)) (d:List MemPlace),
   (∀(j:Nat) t v,fn.params[j]? =some t->args[j]? =some v->Value.okWide C.prog W .any z t v)->
   DataW.Whole enc C.prog fn.params.toList s.vars b W args.toList r x d->
   h.all (PathCond.test C.prog ⟨fn.params.toList,r,s.plain.varTypes C.prog,x⟩)=true->
   (DataW.weightsEach C.prog (fn.params.toList ++s.plain.varTypes C.prog) (r ++x)).all (· <=reachBytes)=true->X W args->W.ShapedOpen C.prog->
   a.holds C.prog (lone (Frame.enter C.prog f args .normal) [] W)->
   Calls C.prog f args W fun e W'=>∃v,e= .returned v/\s.post enc C.prog fn b l g n W args v W'):
  ReturnsInHanded a C os f .any (fun w args=>(s.pre enc C.prog fn h b w args/\X w args)/\sizedMet enc C.prog fn (OpenSpec.ofChange s) b w args) (s.post enc C.prog fn b l g n):=by
 refine returnsInHanded_of_calls own m q o ?_;intro w c i _ G _ E u p;obtain⟨_,_,_,B,y,_,_,_,_,A⟩:=E;have e:B=fn:=Option.some.inj (y.symm.trans D);subst e;obtain⟨⟨⟨r,x,d,I,N⟩,O⟩,M⟩:=u;have F:=DataW.Whole.of_heap (w':=w.forCall c i) (by rfl) I;refine(k (w.forCall c i) w.heap.size i.args r x d A F N (M.weights I) (K _ _ _ (by rfl) O) G p).mono fun e W' ⟨v,L,J⟩=>?_
 subst L;exact ChangeSpec.post_blind J
end
end Go.Proofs.YtbemfdcjieakdaaGreatDoor
