/- LogSeal; LogOpen. -/
import Derived.Test.YtbemfdcjieakdaaGreatDoorK22
import Derived.Test.YtbemfdcjieakdaaGreatDoorK32
set_option maxRecDepth 100000
set_option maxHeartbeats 8000000
namespace Go.Proofs.YtbemfdcjieakdaaGreatDoor
section
open Go.RowKit Go.ChangeMaps Go.MapKept
theorem a59(i f:Nat)(P:List UInt8)(ls:List Rc)(a:P.length=32)(h:(a3F ls).length<=942):(segBytes i f P ls).length=1024:=by
 unfold segBytes;simp only[Af,a20 _ _ _ _ _ _ a (a1H _),a0d,Ba];omega
structure LogOk (g:Int) (M:LogM):Prop where
 g1:0<=g
 g2:g<=65535
 sl:(M.sealed:Int)<=g
 hd:M.head.length=32
 nx:M.next+M.wait.length<=1099511627776
 fit:fitsN 942 M.wait=M.wait.length
 few:M.wait.length<=1000
 seq:∀j (h:j<M.wait.length),M.wait[j].q=M.next+j
def sealM(M:LogM):LogM:=⟨M.sealed+1,sha (a9j M.sealed M.next M.wait.length M.head (a2P (M.wait.map Rc.bytes))),M.next+M.wait.length,[]⟩
variable {w : World} {B l d : Nat} {s p g : Int} {hv wv : Value} {M : LogM}
theorem LogIn.far{S:Nat->Prop}{w':World}(h:LogIn w B l d s p g hv wv M)(hl:B<=l)(hc:Chg S w w')(hs:∀k,S k->k<B):LogIn w' B l d s p g hv wv M where
 cel:=(hc.block l h.lt (fun e=>by have:=hs l e;omega)).trans h.cel
 hd:=hc.own h.hd (fun k hk e=>by have:=hs k e;have:=h.hd.ge k hk;omega)
 wt:=by
  refine⟨?_,fun r hr=>⟨(h.wt.2 r hr).1,(h.wt.2 r hr).2.1,hc.own (h.wt.2 r hr).2.2 (fun k hk e=>by have:=hs k e;have:=(h.wt.2 r hr).2.2.ge k hk;omega)⟩⟩;have ho:=h.wt.1;refine⟨ho.1,?_⟩;rcases ho.2 with h4 | ⟨g,cap,cur,h5,h6,h7,h8⟩
  ·exact .inl h4
  ·exact .inr ⟨g,cap,cur,h5,h6,(hc.block g (ltH h7) (fun e=>by have:=hs g e;omega)).trans h7,h8⟩
theorem Dk.chgl{w w':World}{d sb mb n b:Nat}{S:List UInt8}(h:Dk w d sb mb n S (fun _=>none))(f:Chg (fun k=>k=b) w w')(r:d≠b)(s:sb≠b)(h3:mb≠b):Dk w' d sb mb n S (fun _=>none):=by
 have a:=h.lt;obtain⟨c,l,p,⟨cap,wr,j,m⟩,L,q,g,e⟩:=h;refine⟨c,l,p,⟨cap,wr,(f.block d a.1 r).trans j,f.row m s⟩,L,q.same numS (f.block mb a.2.2 h3),g,fun i v t=>?_⟩;obtain⟨_,_,_,_,_,_,o,_⟩:=e i v t;cases o
theorem b3h(h:LogIn w B l d s p g hv wv M)(b:M.wait=[]):
  Calls Tryz.prog 44 #[.pointer (some ⟨l,0,none⟩)] w fun e w'=>e= .returned (.int .i64 0)/\w'=w:=by
 obtain⟨a,cap,rfl,_⟩:=h.wt.recs (n:=0) (by rw[b];rfl);have c:w.cell? ⟨l,7,none⟩=some (.slice a 0 cap):=a0a h.cel 7;clear h b;go_enter Tryz.func44,Tryz.ntmps44;go_wp2_with fail;go_ret;exact⟨rfl,rfl⟩
theorem b3g{sb mb n:Nat}{S:List UInt8}(h:LogIn w B l d s p g hv wv M)(hD:Dk w d sb mb n S (fun _=>none))(hd:d<B)(ap:sb<B)(ah:mb<B)(hl:B<=l)(aq:B<=w.heap.size)(hp:isPlan s p g)(O:LogOk g M)(H:(M.sealed:Int)<g)(h0:M.wait≠[])(first:Nat)(hf:(first:Int)=1+2 * p+M.sealed * 8)(ae:first+8<=n):
  Calls Tryz.prog 44 #[.pointer (some ⟨l,0,none⟩)] w fun e w'=>e= .returned (.int .i64 0)/\(∃aw,LogIn w' B l d s p g aw (.slice none 0 0) (sealM M))/\
   (∃S',Dk w' d sb mb n S' (fun _=>none)/\∀j,j<n->secOf S' j=sect S (layM (fun _=>none) first (segBytes M.sealed M.next M.head M.wait) 8) j)/\Chg (fun k=>k=l∨k=d∨k=sb∨k=mb) w w':=by
 obtain⟨c,hc⟩:∃c,M.wait.length=c:=⟨_,rfl⟩
 obtain⟨U,b,rfl,am⟩:=h.wt.recs hc;obtain⟨ha,m,rfl,ag⟩:=h.hd.bsn (n:=32) O.hd;have ax:0<c:=by
  rcases BS c with h1 | h1
  ·exact absurd (Ax.1 (hc.trans h1)) h0
  ·exact h1
 obtain⟨Y,a0⟩:=a6B M.wait 942 (fun r hr=>(h.wt.2 r hr).2.1) O.fit;have Z:∀r∈M.wait,a1Z r.k r.q r.ys.length:=fun r hr=>by rw[(h.wt.2 r hr).2.1];exact Y r hr
 have F:M.sealed<=65535:=by have:=O.g2;omega
 have a8:=qh (fun W (hb:Below w.heap.size w W)=>b4L M.sealed M.next F (by have:=O.nx;omega) W ha m M.head (ag.below hb) U c b M.wait (am.below hb) ax (by have:=O.few;omega) (by rw[O.fit,hc]) O.seq);have u:=qh (aI h (aI hD (aI O (aI hc (aI Z a0)))));have z:=qh (aI hd (aI ap (aI ah (aI hl (aI aq F)))));have HP:=qh (aI hp (aI H (aI hf ae)));have t:=h.cel;have aA:((c:Int) == 0)=false:=by rw[Al];omega
 obtain⟨J,P⟩:=qnm M.sealed;obtain⟨L,v⟩:=qnm M.next
 obtain⟨Pd,a4⟩:=qnm M.head;rw[<-P,<-v] at t;rw[<-P,<-v,<-a4] at a8;have G:=qh (aI P (aI v a4));have av:=ltH t;have c7:w.cell? ⟨l,7,none⟩=some (.slice U c b):=(a1I t).2.2.2.2.2.2.2;have an:=qh t;clear h hD O hc Z Y a0 hd ap ah hl aq hp H hf ae t P v a4 h0 am ag F;go_enter Tryz.func44,Tryz.ntmps44;go_upto_region 3 with fail
 refine a0h (fun i=>[0,1,2,3,4,5,6,7,8,9,10,11,12,13,14,15,16,17,18,19,20,21].contains i) (fun w'=>w'.cell? ⟨l,0,none⟩=some (.pointer (some ⟨d,0,none⟩))/\w'.cell? ⟨l,1,none⟩=some (.int .i64 s)/\w'.cell? ⟨l,2,none⟩=some (.int .i64 p)/\w'.cell? ⟨l,3,none⟩=some (.int .i64 g)/\w'.cell? ⟨l,4,none⟩=some (.int .i64 (J:Int))/\w'.cell? ⟨l,5,none⟩=some (.slice ha 32 m)/\w'.cell? ⟨l,6,none⟩=some (.int .u64 (L:Int))/\w'.cell? ⟨l,7,none⟩=some (.slice U c b)) (by kernel_rfl) ?_ (fun hHeld=>?_)
 ·exact a1I an.out
 refine qtk 0 15 ?_;refine qtk 1 16 ?_;refine qtk 2 17 ?_;refine qtk 3 18 ?_;refine qtk 4 19 ?_;refine qtk 5 20 ?_;refine qtk 6 21 ?_;refine qtk 7 22 ?_;refine qtk 8 23 ?_;refine qtk 9 24 ?_;refine qtk 10 25 ?_;refine qtk 11 26 ?_;refine qtk 12 27 ?_;refine qtk 13 28 ?_;refine qtk 14 29 ?_;refine qtk 15 30 ?_;refine qone 16 fun K hK=>?_
 go_simp;refine(a8.out w.drew (Ab _ _).drew).mono ?_;rintro e w1 ⟨v1,rfl,o,hb1⟩;have D:Below w.heap.size w w1:=(Ab _ _).drew.trans hb1;have a:=(D.block l av).trans an.out;have hHeld:=a1I a;have H1:=qh (aI o (aI D a));obtain⟨va,vc,rfl,a3⟩:=o.bsn (n:=1024) (a59 _ _ _ _ (by rw[G.out.2.2];exact u.out.2.2.1.hd) u.out.2.2.2.2.2);clear o hb1 D a;go_wp2_with fail;refine hK.out _ _ (fun _=>hHeld) ?_;clear hK K;refine qtk 17 14 ?_;refine qtk 18 32 ?_;refine qtk 19 33 ?_;refine qtk 20 3 ?_;refine qtk 21 4 ?_;refine qdon ?_;clear hHeld a8;go_upto_region 6 with fail
 obtain⟨o,hb1,a⟩:=H1.out;have au:=u.out.2.1.below (hb1.drew);have a1:=b18 (w:=w1.drew) au s p g HP.out.1 M.sealed first HP.out.2.1 HP.out.2.2.1 8 va vc _ (a3.below (Ab _ _).drew) HP.out.2.2.2 (fun ad a7=>by
  subst a7;have h1:w.heap.size<=ad.block:=o.ge ad.block rfl;have h2:=z.out;omega)
 rw[<-G.out.1] at a1;have al:=qh a1;have az:=qh (show ∀w3,Chg (fun k=>k=d∨k=sb∨k=mb) w1.drew w3->w3.heap[l]? =some (.cells (logC d s p g J (.slice ha 32 m) L (.slice U c b)) TLog (0,0))/\_ from fun w3 f=>by
  have hz:w3.heap[l]? =some (.cells (logC d s p g J (.slice ha 32 m) L (.slice U c b)) TLog (0,0)):=(f.block l (ltH a) (by have:=z.out;omega)).trans a;exact⟨hz,a1I hz⟩)
 clear o hb1 a au a1;refine a0h (fun i=>[0,1,2,3,4,5,6,7,8,9,10,11,12,13].contains i) (fun w'=>w'.cell? ⟨l,0,none⟩=some (.pointer (some ⟨d,0,none⟩))/\w'.cell? ⟨l,1,none⟩=some (.int .i64 s)/\w'.cell? ⟨l,2,none⟩=some (.int .i64 p)/\w'.cell? ⟨l,3,none⟩=some (.int .i64 g)/\w'.cell? ⟨l,4,none⟩=some (.int .i64 (J:Int))/\w'.cell? ⟨l,5,none⟩=some (.slice ha 32 m)/\w'.cell? ⟨l,6,none⟩=some (.int .u64 (L:Int))/\w'.cell? ⟨l,7,none⟩=some (.slice U c b)) (by kernel_rfl) ?_ (fun hHeld=>?_)
 ·exact a1I H1.out.2.2
 refine qtk 0 37 ?_;refine qtk 1 38 ?_;refine qtk 2 39 ?_;refine qtk 3 40 ?_;refine qtk 4 41 ?_;refine qtk 5 42 ?_;refine qtk 6 43 ?_;refine qtk 7 44 ?_;refine qtk 8 45 ?_;refine qtk 9 46 ?_;refine qtk 10 47 ?_;refine qtk 11 48 ?_;refine qtk 12 49 ?_;refine qone 13 fun K hK=>?_
 go_simp;refine(al.out).mono ?_;rintro e w3 ⟨rfl,⟨S',I,N⟩,f⟩;have hHeld:=(az.out w3 f).2;have H3:=qh (aI I (aI N f));clear I N f;go_wp2_with fail;refine hK.out _ _ (fun _=>hHeld) ?_;clear hK K;refine qdon ?_;clear hHeld al;go_upto_region 7 with fail
 obtain⟨I,N,f⟩:=H3.out;obtain⟨o,hb1,a⟩:=H1.out;have X:=f.bs (a3.below (Ab _ _).drew) (fun ad a7=>by
  subst a7;have h1:w.heap.size<=ad.block:=o.ge ad.block rfl;have h2:=z.out;omega)
 have ar:LogIn w3 B l d s p g (.slice ha 32 m) (.slice U c b) M:=(u.out.1.below hb1.drew).far z.out.2.2.2.1 f (fun k hk=>by have:=z.out;omega);have v:L<=4611686018427387904:=by have:=u.out.2.2.1.nx;have:=G.out.2.1;omega
 have E:J<=65535:=by have:=z.out;have:=G.out.1;omega
 have aj:=u.out.2.2.2.1;have ab:=b1L J L Pd M.wait va vc w3 X E v (by rw[G.out.2.2];exact u.out.2.2.1.hd) u.out.2.2.2.2.1 (by rw[G.out.2.1];exact u.out.2.2.1.seq) (by omega) u.out.2.2.1.few u.out.2.2.2.2.2;rw[aj] at ab;have ai:=qh ab;have V:Chg (fun k=>k=l∨k=d∨k=sb∨k=mb) w w3:=(Chg.of_below hb1.drew _).trans f (fun k _ e=>.inr e);have a6:=qh (aI ar V);clear I N f o hb1 a X ar v E aj ab V a3;go_wp2_with fail;refine ai.out.mono ?_;rintro e w4 ⟨pa,ra,pc,rc,v4,aD,rfl,af,ac,_,_,hb4⟩;unfold a1f;obtain⟨w5,Q⟩:=qnm (w4.alloc (.cells #[.int .i64 (J:Int),.int .u64 (L:Int),.int .i64 (c:Int),.int .i64 ((a3F M.wait).length:Nat),.slice pa 32 pc,.slice ra 32 rc] THd));obtain⟨M5,a9⟩:=qnm w4.heap.size;have A:=qba Q;have ak:hd6 w5 M5 J L c (a3F M.wait).length pa ra pc rc:=by rw[Q,a9];exact Ae w4 _
 have C:Below w3.heap.size w3 w5:=hb4.trans (A.mono hb4.size);have T:B<=w5.heap.size:=Ad z.out.2.2.2.2.1 (Ad a6.out.2.size C.size);obtain⟨d0,d1,d2,d3,d4,d5⟩:=ak.cells;have a2:=b7S (a6.out.1.below C) z.out.2.2.2.2.2 J L c ((a3F M.wait).length:Nat) pa ra pc rc Pd (a2P (M.wait.map Rc.bytes)) (by have:=z.out;have:=G.out.1;omega) (by have:=u.out.2.2.1.few;have:=u.out.2.2.2.1;omega) (by have:=u.out.2.2.1.nx;have:=G.out.2.1;omega) w3.heap.size (af.below A) (by rw[G.out.2.2];exact u.out.2.2.1.hd) (ac.below A) (a1H _) T;unfold a1f at a2;have ao:=qh a2;have R:=qh (aI Q (aI a9 C));clear af ac hb4 Q a9 A ak C T a2 ai;go_upto_region 8 with fail
 rw[<-R.out.1,<-R.out.2.1];go_wp2_with fail;refine ao.out.mono ?_;rintro e w6 ⟨rfl,⟨ay,x⟩,a5⟩;have f7:=a0e x.cel 7;have aB:w6.cell? ⟨l,7,none⟩=some (.slice U c b):=(a1I x.cel).2.2.2.2.2.2.2;have aC:=ltH x.cel;have HF:=qh (show LogIn (w6.setCell ⟨l,7,none⟩ (.slice none 0 0)) B l d s p g ay (.slice none 0 0) (sealM M)/\Dk (w6.setCell ⟨l,7,none⟩ (.slice none 0 0)) d sb mb n S' (fun _=>none)/\Chg (fun k=>k=l∨k=d∨k=sb∨k=mb) w (w6.setCell ⟨l,7,none⟩ (.slice none 0 0)) from by
  have aa:=a0x w6 l 7 (.slice none 0 0);obtain⟨e1,e2,e3⟩:=G.out;refine⟨⟨?_,?_,OwnR.nil _ _⟩,?_,((a6.out.2.step R.out.2.2).trans a5 (fun k _ e=>.inl e)).trans aa (fun k _ e=>.inl e)⟩
  ·have:=a0f (k:=7) (y:=.slice none 0 0) x.cel;rw[e2,<-u.out.2.2.2.1] at this;exact this
  ·have:=a3O x.cel aa x.hd;rw[e1,e2,e3,<-u.out.2.2.2.1] at this;exact this
  ·exact((H3.out.1.below R.out.2.2).chgl a5 (by have:=z.out;omega) (by have:=z.out;omega) (by have:=z.out;omega)).chgl aa (by have:=z.out;omega) (by have:=z.out;omega) (by have:=z.out;omega))
 clear x a5 ao d0 d1 d2 d3 d4 d5;go_wp2_with fail;go_ret;obtain⟨h1,h2,h3⟩:=HF.out;obtain⟨e1,e2,e3⟩:=G.out;refine⟨rfl,⟨_,h1⟩,⟨S',h2,?_⟩,h3⟩;rw[<-e1,<-e2,<-e3];exact H3.out.2.1
end
section
open Go.RowKit Go.ChangeMaps Go.MapKept
theorem a0C{w:World}{b:Nat}{s p g:Int}{a:TypeId}(h:w.heap[b]? =some (.cells #[.int .i64 s,.int .i64 p,.int .i64 g] a (0,0))):
  w.cell? ⟨b,0,none⟩=some (.int .i64 s)/\w.cell? ⟨b,1,none⟩=some (.int .i64 p)/\w.cell? ⟨b,2,none⟩=some (.int .i64 g):=⟨a0a h 0,a0a h 1,a0a h 2⟩
def a3b(b:Nat)(id a:List UInt8)(next:Nat):LogM:=⟨b,if b=0 then sha (3 :: id) else a,if b=0 then 1 else next,[]⟩
abbrev a14:TypeId:=47
theorem b17{w:World}{d sb mb n:Nat}{S:List UInt8}(hD:Dk w d sb mb n S (fun _=>none))(s p g:Int)(hp:isPlan s p g)(hs:s=n)(ia ha:Option Addr)(ic hc:Nat)(id B:List UInt8)(hI:Bs w ia 16 ic id)(hH:Bs w ha 32 hc B)(z next:Nat)(ao:(z:Int)<=g)(au:1<=next)(aw:next<=1099511627776)
  (first:Nat) (hf:(z:Int)<g->(first:Int)=1+2 * p+z * 8/\first+8<=n/\catS S (fun _=>none) first 8=List.replicate 1024 0):
  Calls Tryz.prog 130 #[.pointer (some ⟨d,0,none⟩),.agg #[.int .i64 s,.int .i64 p,.int .i64 g],.slice ia 16 ic,.int .i64 (z:Int),.slice ha 32 hc,.int .u64 (next:Int)] w fun e w'=>
   ∃l,e= .returned (.tuple #[.pointer (some ⟨l,0,none⟩),.slice none 0 0,.int .i64 0])/\w.heap.size<=l/\(∃hv,LogIn w' w.heap.size l d s p g hv (.slice none 0 0) (a3b z id B next))/\Below w.heap.size w w':=by
 obtain⟨w0,Y⟩:=qnm (w.alloc (.cells #[.int .i64 s,.int .i64 p,.int .i64 g] a14));have hb0:=qba Y;have ae:w0.heap[w.heap.size]? =some (.cells #[.int .i64 s,.int .i64 p,.int .i64 g] a14 (0,0)):=by rw[Y];exact Ae w _
 obtain⟨N,hN⟩:=qnm w.heap.size;rw[<-hN] at ae;have ai:=hp.bd;have u:=qh (aI Y (aI hb0 (aI ae hN)));have ap:=qh (fun W=>a2X s p g W hp);have aB:=qh (fun W (U:Below w.heap.size w W)=>a2N (hD.below U));have HX:=qh (aI hD (aI hp (aI hI (aI hH (aI hf hs)))));have aD:(s != (n:Int))=false:=by rw[Bz];exact hs
 have aL:decide ((z:Int)<0)=false:=Aq (by omega);have aJ:decide (g<(z:Int))=false:=Aq (by omega);have aK:decide ((next:Int)<1)=false:=Aq (by omega);have aG:decide ((1099511627776:Int)<(next:Int))=false:=Aq (by omega);have HG:=qh (aI ao (aI au (aI aw ai)));clear hD hp hI hH hf hs Y hb0 ae hN ao au aw ai;go_enter Tryz.func130,Tryz.ntmps130;go_upto_region 1 with fail
 rw[<-u.out.1,<-u.out.2.2.2];refine a0h (fun i=>[0,1,2,3,4,5,6,7,8,9,10,11,12,13,14,15,16,17,18,19,20,21,22,23,24,25,26,27,28,29,30,31,32,33,34,35,36].contains i) (fun w'=>w'.cell? ⟨N,0,none⟩=some (.int .i64 s)/\w'.cell? ⟨N,1,none⟩=some (.int .i64 p)/\w'.cell? ⟨N,2,none⟩=some (.int .i64 g)) (by kernel_rfl) ?_ (fun hHeld=>?_)
 ·exact a0C u.out.2.2.1
 refine qtk 0 20 ?_;refine qtk 1 21 ?_;refine qtk 2 22 ?_;refine qtk 3 23 ?_;refine qone 4 fun K hK=>?_
 go_simp;refine(ap.out _).mono ?_;rintro e w1 ⟨rfl,hb1⟩;have H1:=qh (show Below w0.heap.size w0 w1 from(Ab _ _).drew.trans hb1);have hHeld:=a0C ((H1.out.block N (ltH u.out.2.2.1)).trans u.out.2.2.1);clear hb1;go_wp2_with fail;refine hK.out _ _ (fun _=>hHeld) ?_;clear hK K;refine qtk 5 25 ?_;refine qtk 6 26 ?_;refine qtk 7 27 ?_;refine qtk 8 28 ?_;refine qtk 9 29 ?_;refine qtk 10 30 ?_;refine qone 11 fun K hK=>?_
 go_simp;refine(aB.out w1 (u.out.2.1.trans (H1.out.mono u.out.2.1.size))).mono ?_;rintro e w2 ⟨rfl,rfl⟩;go_wp2_with fail;refine hK.out _ _ (fun _=>hHeld) ?_;clear hK K;refine qtk 12 32 ?_;refine qtk 13 33 ?_;refine qtk 14 34 ?_;refine qtk 15 35 ?_;refine qtk 16 36 ?_;refine qtk 17 37 ?_;refine qtk 18 38 ?_;refine qtk 19 39 ?_;refine qtk 20 40 ?_;refine qtk 21 41 ?_;refine qtk 22 42 ?_;refine qtk 23 43 ?_;refine qtk 24 44 ?_;refine qtk 25 45 ?_;refine qtk 26 46 ?_;refine qtk 27 47 ?_;refine qtk 28 48 ?_;refine qtk 29 49 ?_;refine qtk 30 50 ?_;refine qtk 31 51 ?_;refine qtk 32 52 ?_;refine qtk 33 53 ?_;refine qtk 34 54 ?_;refine qtk 35 55 ?_;refine qtk 36 56 ?_;refine qdon ?_;clear hHeld ap aB;go_upto_region 3 with fail
 have Z:=(H1.out.block N (ltH u.out.2.2.1)).trans u.out.2.2.1;have Q:Below w.heap.size w w1:=u.out.2.1.trans (H1.out.mono u.out.2.1.size);have av:=qh (a0V ha 32 hc B w1.drew (HX.out.2.2.2.1.below Q.drew) (by unfold big;decide));have a9:=qh Q;clear Q;refine a0h (fun i=>[0,1,2,3,4,5,6,7].contains i) (fun w'=>w'.cell? ⟨N,0,none⟩=some (.int .i64 s)/\w'.cell? ⟨N,1,none⟩=some (.int .i64 p)/\w'.cell? ⟨N,2,none⟩=some (.int .i64 g)) (by kernel_rfl) ?_ (fun hHeld=>?_)
 ·exact a0C Z
 refine qtk 0 57 ?_;refine qtk 1 58 ?_;refine qtk 2 59 ?_;refine qtk 3 60 ?_;refine qtk 5 62 ?_;refine qone 4 fun K hK=>?_
 go_simp;refine av.out.mono ?_;rintro e w2 ⟨v2,rfl,J,hb2⟩;obtain⟨a2,k2,rfl,_⟩:=J.bsn (n:=32) HX.out.2.2.2.1.1;have H2:=qh (aI J (show Below w1.heap.size w1 w2 from(Ab _ _).drew.trans hb2));have T:=(H2.out.2.block N (ltH Z)).trans Z;have hHeld:=a0C T;clear J hb2;go_wp2_with fail;refine hK.out _ _ (fun _=>hHeld) ?_;clear hK K;refine qtk 6 63 ?_;refine qone 7 fun K hK=>?_
 go_simp;obtain⟨w3,O⟩:=qnm (w2.alloc (.cells (logC d s p g z (.slice a2 32 k2) next (.slice none 0 0)) TLog));have hb3:=qba O;have a8:w3.heap[w2.heap.size]? =some (.cells (logC d s p g z (.slice a2 32 k2) next (.slice none 0 0)) TLog (0,0)):=by rw[O];exact Ae w2 _
 have aa:=(hb3.block N (ltH T)).trans T;have hHeld:=a0C aa;unfold logC at O;rw[<-O];refine hK.out _ _ (fun _=>hHeld) ?_;clear hK K;refine qfr 8 15 ?_;refine qdon ?_;clear hHeld av O;obtain⟨l,hl⟩:=qnm w2.heap.size;rw[<-hl] at a8⊢;obtain⟨J,a4⟩:=H2.out;have G:Below w.heap.size w w2:=a9.out.trans (a4.mono a9.out.size);have a3:Below w.heap.size w w3:=G.trans (hb3.mono G.size);have ax:w.heap.size<=l:=by rw[hl];exact G.size
 have hln:l≠N:=by have:=ltH T;omega
 have H3:=qh (show LogIn w3 w.heap.size l d s p g (.slice a2 32 k2) (.slice none 0 0) ⟨z,B,next,[]⟩/\Below w.heap.size w w3/\w3.heap[N]? =some (.cells #[.int .i64 s,.int .i64 p,.int .i64 g] a14 (0,0)) from
  ⟨⟨a8,(J.base a9.out.size).below hb3,OwnR.nil _ _⟩,a3,aa⟩)
 have a0:=qh (aI ax hln);clear hl J a4 G a3 ax hln a8 hb3 aa T Z H2 aD aL aJ aK aG;go_upto_region 4 with fail
 go_cut [66] (fun v wx=>v= .bool (decide (z=0))/\wx=w3);case first=>
  by_cases V:z=0
  ·subst V;go_wp2_with fail;go_meet;exact⟨rfl,rfl⟩
  ·have e0:((z:Int) == 0)=false:=by rw[Al];omega
   go_wp2_with fail;go_meet;exact⟨An Value.bool (Aq V).symm,rfl⟩
 case rest=>
  obtain⟨rfl,aH⟩:=hcut;obtain⟨w4,rfl⟩:=qnm wc;subst aH;go_step;go_cut [] (fun wx=>∃hv,LogIn wx w.heap.size l d s p g hv (.slice none 0 0) (a3b z id B next)/\Below w.heap.size w wx/\wx.heap[N]? =some (.cells #[.int .i64 s,.int .i64 p,.int .i64 g] a14 (0,0)));case first=>
   by_cases V:z=0
   ·rw[AB V];have H0:=qh V;clear V;have al:=qh (a6y ia 16 ic id w4 (HX.out.2.2.1.below H3.out.2.1) (by omega));go_wp2_with fail;refine al.out.mono ?_;rintro e w5 ⟨⟨v5,rfl,ad⟩,hb5⟩;obtain⟨a5,k5,rfl,_⟩:=ad.bsn (n:=32) (a0v _);obtain⟨aq,H,a7⟩:=H3.out;have D:=aq.below hb5;have ab:=(hb5.block N (ltH a7)).trans a7;have M:Below w.heap.size w w5:=H.trans (hb5.mono H.size);have f5:=a0e D.cel 5;have f6:=a0e D.cel 6;have g5:w5.cell? ⟨l,5,none⟩=some (.slice a2 32 k2):=(a1I D.cel).2.2.2.2.2.1;have g6:w5.cell? ⟨l,6,none⟩=some (.int .u64 (next:Int)):=(a1I D.cel).2.2.2.2.2.2.1;have aA:=ltH D.cel;have HF:=qh (show LogIn ((w5.setCell ⟨l,5,none⟩ (.slice a5 32 k5)).setCell ⟨l,6,none⟩ (.int .u64 1)) w.heap.size l d s p g (.slice a5 32 k5) (.slice none 0 0) (a3b z id B next)/\Below w.heap.size w ((w5.setCell ⟨l,5,none⟩ (.slice a5 32 k5)).setCell ⟨l,6,none⟩ (.int .u64 1))/\((w5.setCell ⟨l,5,none⟩ (.slice a5 32 k5)).setCell ⟨l,6,none⟩ (.int .u64 1)).heap[N]? =some (.cells #[.int .i64 s,.int .i64 p,.int .i64 g] a14 (0,0)) from by
     have ac:=(a0x w5 l 5 (.slice a5 32 k5)).two (a0x (w5.setCell ⟨l,5,none⟩ (.slice a5 32 k5)) l 6 (.int .u64 1));have af:=a0f (k:=6) (y:=.int .u64 1) (a0f (k:=5) (y:=.slice a5 32 k5) D.cel);refine⟨⟨?_,?_,OwnR.nil _ _⟩,M.trans (ac.below M.size (fun x _ e=>by have:=a0.out.1;omega)),(ac.block N (ltH ab) (fun e=>a0.out.2 e.symm)).trans ab⟩
     ·unfold a3b;rw[Ah H0.out,Ah H0.out];exact af
     ·unfold a3b;rw[Ah H0.out];exact a3O D.cel ac (ad.base H.size))
    clear ad hb5 aq H a7 D ab M al;go_wp2_with fail;go_meet;exact⟨_,HF.out⟩
   ·rw[Aq V];go_wp2_with fail;go_meet;obtain⟨h1,h2,h3⟩:=H3.out;refine⟨.slice a2 32 k2,?_,h2,h3⟩;unfold a3b;rw[Ag V,Ag V];exact h1
  case rest=>
   obtain⟨hv,P,t,hz⟩:=hcut;obtain⟨w6,rfl⟩:=qnm wc;obtain⟨c0,c1,c2⟩:=a0C hz;have cl:w6.cell? ⟨l,4,none⟩=some (.int .i64 (z:Int)):=(a1I P.cel).2.2.2.2.1;have H6:=qh (aI P (aI t hz));have aM:=ltH hz;have aA:=ltH P.cel;clear P t hz H3;go_wp2_with fail;refine BQ 2 ?_;rw[A0];go_upto_region 7 with fail
   refine a0h (fun i=>[0,1,2,3,4,5,6].contains i) (fun w'=>w'.cell? ⟨l,4,none⟩=some (.int .i64 (z:Int))/\w'.cell? ⟨N,0,none⟩=some (.int .i64 s)/\w'.cell? ⟨N,1,none⟩=some (.int .i64 p)/\w'.cell? ⟨N,2,none⟩=some (.int .i64 g)) (by kernel_rfl) ?_ (fun hHeld=>?_)
   ·exact⟨cl,c0,c1,c2⟩
   refine qtk 0 75 ?_;refine qtk 1 76 ?_;refine qtk 2 77 ?_;refine qtk 3 78 ?_;refine qtk 4 79 ?_;refine qtk 5 80 ?_;refine qtk 6 81 ?_;refine qdon ?_;clear hHeld;clear cl c0 c1 c2;by_cases aF:(z:Int)<g
   ·have aj:=qh aF;go_upto_region 8 with fail
    obtain⟨P,t,hz⟩:=H6.out;obtain⟨ar,ah,a6⟩:=HX.out.2.2.2.2.1 aj.out;have a1:Below w6.heap.size w6 w6.drew.drew:=(Ab _ _).drew.drew;have am:=qh (show ∀W,Below w6.heap.size w6 W->_ from fun W U=>a6k (HX.out.1.below (t.trans (U.mono t.size))) s p g HX.out.2.1 z first aj.out ar ah);have ak:=qh a6;have r:=qh (show ∀W,Below w6.heap.size w6 W->W.cell? ⟨l,4,none⟩=some (.int .i64 (z:Int))/\W.cell? ⟨N,0,none⟩=some (.int .i64 s)/\W.cell? ⟨N,1,none⟩=some (.int .i64 p)/\W.cell? ⟨N,2,none⟩=some (.int .i64 g) from fun W U=>
     ⟨(a1I ((U.block l aA).trans P.cel)).2.2.2.2.1,a0C ((U.block N aM).trans hz)⟩)
    have ag:=qh a1;clear P t hz ar ah a6 a1;go_cut [18,19] (fun a b wx=>a= .slice none 0 0/\b= .int .i64 14/\Below w6.heap.size w6 wx);case first=>
     refine a0h (fun i=>[0,1,2,3,4,5,6,7,8,9,10,11,12,13,14,15].contains i) (fun w'=>w'.cell? ⟨l,4,none⟩=some (.int .i64 (z:Int))/\w'.cell? ⟨N,0,none⟩=some (.int .i64 s)/\w'.cell? ⟨N,1,none⟩=some (.int .i64 p)/\w'.cell? ⟨N,2,none⟩=some (.int .i64 g)) (by kernel_rfl) ?_ (fun hHeld=>?_)
     ·exact r.out _ ag.out
     have f:=ag;obtain⟨wd,ay⟩:=qnm w6.drew.drew;rw[<-ay] at hHeld f⊢;clear ay;refine qtk 0 83 ?_;refine qtk 1 84 ?_;refine qtk 2 85 ?_;refine qtk 3 86 ?_;refine qtk 4 87 ?_;refine qtk 5 88 ?_;refine a0J 6 12 (by kernel_rfl) rfl rfl (fun K hK=>?_) (fun K hK=>?_)
     ·go_simp;refine(am.out wd f.out).mono ?_;rintro e wp ⟨vp,rfl,F,I⟩;rw[ak.out] at F;obtain⟨pa,pk,rfl,L⟩:=F.bsn (n:=1024) (by simp);have X:=qh (fun W (U:Below wp.heap.size wp W)=>a3J pa pk W (L.below U));have j:=f.out.trans (I.mono f.out.size);clear f;have f:=qh j;have hHeld:=r.out _ f.out;have aE:=qh (Ab wp.heap.size wp);clear F I L j;go_wp2_with fail;refine hK.out _ _ (fun _=>hHeld) ?_;clear hK K;refine a0J 7 12 (by kernel_rfl) rfl rfl (fun K hK=>?_) (fun K hK=>?_)
      ·go_simp;refine(X.out wp (Ab _ _)).mono ?_;rintro e wr ⟨rfl,A⟩;have j:=f.out.trans (A.mono f.out.size);clear f;have f:=qh j;have hHeld:=r.out _ f.out;unfold b6X;clear A j;go_wp2_with fail;refine hK.out _ _ (fun _=>hHeld) ?_;clear hK K;refine qtk 8 82 ?_;refine qtk 9 91 ?_;refine qtk 10 92 ?_;refine qtk 11 93 ?_;refine qone 12 fun K hK=>?_
       go_simp;obtain⟨m,h⟩:=qnm (wr.alloc (.cells #[.int .i64 0,.int .u64 0,.int .i64 0,.int .i64 0,.slice none 0 0,.slice none 0 0] THd));have q:=qba h;have c:m.heap[wr.heap.size]? =some (.cells #[.int .i64 0,.int .u64 0,.int .i64 0,.int .i64 0,.slice none 0 0,.slice none 0 0] THd (0,0)):=by rw[h];exact Ae wr _
       have C:w6.heap.size<=wr.heap.size:=f.out.size;have o:=f.out.trans (q.mono f.out.size);clear f;have f:=qh o;have hHeld:=r.out _ f.out;rw[<-h];skip;clear h o q;refine hK.out _ _ (fun _=>hHeld) ?_;clear hK K;refine qone 13 fun K hK=>?_
       have z0:m.cell? ⟨wr.heap.size,0,none⟩=some (.int .i64 0):=a0a c 0;have f0:=a0e c 0;have z1:m.cell? ⟨wr.heap.size,1,none⟩=some (.int .u64 0):=a0a c 1;have f1:=a0e c 1;have z2:m.cell? ⟨wr.heap.size,2,none⟩=some (.int .i64 0):=a0a c 2;have f2:=a0e c 2;have z3:m.cell? ⟨wr.heap.size,3,none⟩=some (.int .i64 0):=a0a c 3;have f3:=a0e c 3;have z4:m.cell? ⟨wr.heap.size,4,none⟩=some (.slice none 0 0):=a0a c 4;have f4:=a0e c 4;have z5:m.cell? ⟨wr.heap.size,5,none⟩=some (.slice none 0 0):=a0a c 5;have f5:=a0e c 5;have R:=ltH c;go_simp;have E:=b8f m wr.heap.size (.int .i64 0) (.int .u64 0) (.int .i64 0) (.int .i64 0) (.slice none 0 0) (.slice none 0 0);have j:=f.out.trans (E.below f.out.size (fun x hx e=>by omega));clear f;have f:=qh j;have hHeld:=r.out _ f.out;clear j E c z0 z1 z2 z3 z4 z5 f0 f1 f2 f3 f4 f5 R C;refine hK.out _ _ (fun _=>hHeld) ?_;clear hK K;refine qtk 14 18 ?_;refine qtk 15 19 ?_;refine qdon ?_;go_wp2_with fail;go_meet;exact⟨rfl,rfl,f.out⟩
      ·go_simp;obtain⟨m,h⟩:=qnm (wp.alloc (.cells #[.int .i64 0,.int .u64 0,.int .i64 0,.int .i64 0,.slice none 0 0,.slice none 0 0] THd));have q:=qba h;have c:m.heap[wp.heap.size]? =some (.cells #[.int .i64 0,.int .u64 0,.int .i64 0,.int .i64 0,.slice none 0 0,.slice none 0 0] THd (0,0)):=by rw[h];exact Ae wp _
       have C:w6.heap.size<=wp.heap.size:=f.out.size;have o:=f.out.trans (q.mono f.out.size);clear f;have f:=qh o;have hHeld:=r.out _ f.out;rw[<-h];have aC:=qba h;clear h o q;refine hK.out _ _ (fun _=>hHeld) ?_;clear hK K;refine qone 7 fun K hK=>?_
       go_simp;refine(X.out m aC).mono ?_;rintro e wr ⟨rfl,A⟩;have j:=f.out.trans (A.mono f.out.size);have c:=(A.block _ (ltH c)).trans c;clear f;have f:=qh j;have hHeld:=r.out _ f.out;unfold b6X;clear A j;go_wp2_with fail;refine hK.out _ _ (fun _=>hHeld) ?_;clear hK K;refine qtk 8 82 ?_;refine qtk 9 91 ?_;refine qtk 10 92 ?_;refine qtk 11 93 ?_;refine qone 13 fun K hK=>?_
       have z0:wr.cell? ⟨wp.heap.size,0,none⟩=some (.int .i64 0):=a0a c 0;have f0:=a0e c 0;have z1:wr.cell? ⟨wp.heap.size,1,none⟩=some (.int .u64 0):=a0a c 1;have f1:=a0e c 1;have z2:wr.cell? ⟨wp.heap.size,2,none⟩=some (.int .i64 0):=a0a c 2;have f2:=a0e c 2;have z3:wr.cell? ⟨wp.heap.size,3,none⟩=some (.int .i64 0):=a0a c 3;have f3:=a0e c 3;have z4:wr.cell? ⟨wp.heap.size,4,none⟩=some (.slice none 0 0):=a0a c 4;have f4:=a0e c 4;have z5:wr.cell? ⟨wp.heap.size,5,none⟩=some (.slice none 0 0):=a0a c 5;have f5:=a0e c 5;have R:=ltH c;go_simp;have E:=b8f wr wp.heap.size (.int .i64 0) (.int .u64 0) (.int .i64 0) (.int .i64 0) (.slice none 0 0) (.slice none 0 0);have j:=f.out.trans (E.below f.out.size (fun x hx e=>by omega));clear f;have f:=qh j;have hHeld:=r.out _ f.out;clear j E c z0 z1 z2 z3 z4 z5 f0 f1 f2 f3 f4 f5 R C;refine hK.out _ _ (fun _=>hHeld) ?_;clear hK K;refine qtk 14 18 ?_;refine qtk 15 19 ?_;refine qdon ?_;go_wp2_with fail;go_meet;exact⟨rfl,rfl,f.out⟩
     ·go_simp;obtain⟨m,h⟩:=qnm (wd.alloc (.cells #[.int .i64 0,.int .u64 0,.int .i64 0,.int .i64 0,.slice none 0 0,.slice none 0 0] THd));have q:=qba h;have c:m.heap[wd.heap.size]? =some (.cells #[.int .i64 0,.int .u64 0,.int .i64 0,.int .i64 0,.slice none 0 0,.slice none 0 0] THd (0,0)):=by rw[h];exact Ae wd _
      have C:w6.heap.size<=wd.heap.size:=f.out.size;have o:=f.out.trans (q.mono f.out.size);clear f;have f:=qh o;have hHeld:=r.out _ f.out;rw[<-h];clear h o q;refine hK.out _ _ (fun _=>hHeld) ?_;clear hK K;refine qone 6 fun K hK=>?_
      go_simp;refine(am.out m f.out).mono ?_;rintro e wp ⟨vp,rfl,F,I⟩;rw[ak.out] at F;obtain⟨pa,pk,rfl,L⟩:=F.bsn (n:=1024) (by simp);have X:=qh (fun W (U:Below wp.heap.size wp W)=>a3J pa pk W (L.below U));have j:=f.out.trans (I.mono f.out.size);have c:=(I.block _ (ltH c)).trans c;clear f;have f:=qh j;have hHeld:=r.out _ f.out;have aE:=qh (Ab wp.heap.size wp);clear F I L j;go_wp2_with fail;refine hK.out _ _ (fun _=>hHeld) ?_;clear hK K;refine qone 7 fun K hK=>?_
      go_simp;refine(X.out wp (Ab _ _)).mono ?_;rintro e wr ⟨rfl,A⟩;have j:=f.out.trans (A.mono f.out.size);have c:=(A.block _ (ltH c)).trans c;clear f;have f:=qh j;have hHeld:=r.out _ f.out;unfold b6X;clear A j;go_wp2_with fail;refine hK.out _ _ (fun _=>hHeld) ?_;clear hK K;refine qtk 8 82 ?_;refine qtk 9 91 ?_;refine qtk 10 92 ?_;refine qtk 11 93 ?_;refine qone 13 fun K hK=>?_
      have z0:wr.cell? ⟨wd.heap.size,0,none⟩=some (.int .i64 0):=a0a c 0;have f0:=a0e c 0;have z1:wr.cell? ⟨wd.heap.size,1,none⟩=some (.int .u64 0):=a0a c 1;have f1:=a0e c 1;have z2:wr.cell? ⟨wd.heap.size,2,none⟩=some (.int .i64 0):=a0a c 2;have f2:=a0e c 2;have z3:wr.cell? ⟨wd.heap.size,3,none⟩=some (.int .i64 0):=a0a c 3;have f3:=a0e c 3;have z4:wr.cell? ⟨wd.heap.size,4,none⟩=some (.slice none 0 0):=a0a c 4;have f4:=a0e c 4;have z5:wr.cell? ⟨wd.heap.size,5,none⟩=some (.slice none 0 0):=a0a c 5;have f5:=a0e c 5;have R:=ltH c;go_simp;have E:=b8f wr wd.heap.size (.int .i64 0) (.int .u64 0) (.int .i64 0) (.int .i64 0) (.slice none 0 0) (.slice none 0 0);have j:=f.out.trans (E.below f.out.size (fun x hx e=>by omega));clear f;have f:=qh j;have hHeld:=r.out _ f.out;clear j E c z0 z1 z2 z3 z4 z5 f0 f1 f2 f3 f4 f5 R C;refine hK.out _ _ (fun _=>hHeld) ?_;clear hK K;refine qtk 14 18 ?_;refine qtk 15 19 ?_;refine qdon ?_;go_wp2_with fail;go_meet;exact⟨rfl,rfl,f.out⟩
    case rest=>
     obtain⟨rfl,rfl,az⟩:=hcut;obtain⟨w7,rfl⟩:=qnm wc;have an:=qh az;clear az;go_upto_region 9 with fail
     refine a0h (fun i=>[0,1,2,3,4,5,6,7,8,9,10,11,12,13,14,15,16,17,18,19,20,21,22,23,24,25,26,27,28,29].contains i) (fun _=>True) (by kernel_rfl) ?_ (fun hHeld=>?_)
     ·trivial
     refine qtk 0 94 ?_;refine qtk 1 95 ?_;refine qtk 2 96 ?_;refine qtu 3 97 ?_;refine qtu 4 98 ?_;refine qtu 5 99 ?_;refine qtu 6 100 ?_;refine qtu 7 101 ?_;refine qtu 8 102 ?_;refine qtu 9 103 ?_;refine qtk 10 104 ?_;refine qtk 11 105 ?_;refine qtu 12 106 ?_;refine qtu 13 107 ?_;refine qtu 14 108 ?_;refine qtu 15 109 ?_;refine qtu 16 110 ?_;refine qtu 17 111 ?_;refine qtu 18 112 ?_;refine qtk 19 113 ?_;refine qtk 20 114 ?_;refine qtu 21 115 ?_;refine qtu 22 116 ?_;refine qtu 23 117 ?_;refine qtu 24 118 ?_;refine qtu 25 119 ?_;refine qtu 26 120 ?_;refine qtu 27 121 ?_;refine qtu 28 122 ?_;refine qtk 29 123 ?_;refine qdon ?_;clear hHeld;go_wp2_with fail;go_ret3;obtain⟨P,t,_⟩:=H6.out;exact⟨l,rfl,a0.out.1,⟨hv,(P.below an.out).below (Ab _ _).drew⟩,(t.trans (an.out.mono t.size)).drew⟩
   ·go_wp2_with fail;go_ret3;obtain⟨P,t,_⟩:=H6.out;exact⟨l,rfl,a0.out.1,⟨hv,P.below (Ab _ _).drew⟩,t.drew⟩
end
end Go.Proofs.YtbemfdcjieakdaaGreatDoor
