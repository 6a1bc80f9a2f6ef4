/- ShaTurn; ShaNew; ShaPad. -/
import Derived.Deep.CutBlock
import Derived.Laws.Tables
import Derived.Test.YtbemfdcjieakdaaGreatDoorK03
set_option maxRecDepth 100000
set_option maxHeartbeats 8000000
namespace Go.Proofs.YtbemfdcjieakdaaGreatDoor
section
open Go.RowKit
theorem b5f(x:UInt8):(x.toNat:Int) % 4294967296=wd x.toUInt32:=by
 have:=x.toNat_lt;unfold wd;rw[UInt8.toNat_toUInt32];omega
theorem b69(x:UInt32):wd x * (256:Int) % (4294967296:Int)=wd (x <<< 8):=by
 have h:=a3e x 8 (by omega);rw[show((2 ^ 8:Nat):Int)=(256:Int) from rfl] at h;exact h
theorem b48(x:UInt32):wd x * (65536:Int) % (4294967296:Int)=wd (x <<< 16):=by
 have h:=a3e x 16 (by omega);rw[show((2 ^ 16:Nat):Int)=(65536:Int) from rfl] at h;exact h
theorem b47(x:UInt32):wd x * (16777216:Int) % (4294967296:Int)=wd (x <<< 24):=by
 have h:=a3e x 24 (by omega);rw[show((2 ^ 24:Nat):Int)=(16777216:Int) from rfl] at h;exact h
theorem b1w(x:UInt32):bits .or .u32 0 (wd x)=wd x:=by
 have:=a2z 0 x
 rwa [UInt32.zero_or] at this
theorem b58(b off cap a:Nat)(f d g c:UInt8)(w:World)(l:4<=a)
  (h:w.cell? ⟨b,off,none⟩=some (.int .u8 (f.toNat:Int))) (n:w.cell? ⟨b,off+1,none⟩=some (.int .u8 (d.toNat:Int)))
  (o:w.cell? ⟨b,off+2,none⟩=some (.int .u8 (g.toNat:Int))) (h3:w.cell? ⟨b,off+3,none⟩=some (.int .u8 (c.toNat:Int))):
  Calls Tryz.prog 331 #[.slice (some ⟨b,off,none⟩) a cap] w fun e w'=>e= .returned (.int .u32 (wd (b80 f d g c)))/\w=w':=by
 have k:((a:Int) == 3)=false:=by rw[Al];omega
 have j:((a:Int) == 2)=false:=by rw[Al];omega
 have m:((a:Int) == 1)=false:=by rw[Al];omega
 have i:((a:Int) == 0)=false:=by rw[Al];omega
 go_enter Tryz.func331,Tryz.ntmps331;go_wp2;go_ret;exact⟨a0F (by rw[b5f,b5f,b5f,b5f,b69,b48,b47,b1w,a2z,a2z,a2z];rfl),rfl⟩
theorem b2H{P:Program}{id:Nat}{Q:Exit->Act->World->Prop}{a:Act}{w:World}{l:List Oper}(n:Nat)(b:P.follows .mixedOrders=true)(d:Region.lexTailB .any l.toArray n=true)
  (h:wpStill P l.toArray w.drew (fun c=>wpList P l.toArray Q (l.drop n) c w.drew) (l.take n) a):(Code.region id l.toArray true).wp P Q a w:=Cb n b d h
def uv(x:UInt32):Value:=.int .u32 (wd x)
def SB(w:World)(g:Nat)(T:TypeId)(pre:List Value)(l:List UInt32)(a:List Value):Prop:=
 w.heap[g]? =some (.cells (pre ++(l.map uv ++a)).toArray T (0,0))
theorem SB.lt{w:World}{g:Nat}{T:TypeId}{pre a:List Value}{l:List UInt32}(h:SB w g T pre l a):g<w.heap.size:=(Array.getElem?_eq_some_iff.1 h).1
theorem SB.cell{w:World}{g:Nat}{T:TypeId}{pre a:List Value}{l:List UInt32}(h:SB w g T pre l a)(i:Nat)(b:i<l.length):w.cell? ⟨g,pre.length+i,none⟩=some (.int .u32 (wd l[i])):=by
 unfold SB at h;simp only[World.cell?,h];rw[BB,AM (by omega),Cn,A7 (by simpa using b)];simp[b,uv]
theorem SB.frozen{w:World}{g:Nat}{T:TypeId}{pre a:List Value}{l:List UInt32}(h:SB w g T pre l a)(i:Nat):w.frozen? ⟨g,i,none⟩=false:=by
 unfold SB at h;simp[World.frozen?,h]
theorem SB.set{w:World}{g:Nat}{T:TypeId}{pre post:List Value}{l:List UInt32}(h:SB w g T pre l post)(i:Nat)(b:i<l.length)(x:UInt32):SB (w.setCell ⟨g,pre.length+i,none⟩ (.int .u32 (wd x))) g T pre (l.set i x) post:=by
 have a:=a0f (k:=pre.length+i) (y:=.int .u32 (wd x)) h;unfold SB;rw[a];congr 2;rw[Aw,BA _ _ (by omega),Cn,List.set_append_left _ _ (by simpa using b),List.map_set];rfl
theorem SB.below{w w':World}{g:Nat}{T:TypeId}{pre post:List Value}{l:List UInt32}(h:SB w g T pre l post)(a:Below w.heap.size w w'):SB w' g T pre l post:=(a.block g h.lt).trans h
theorem SB.far{w:World}{g Z k:Nat}{T:TypeId}{pre post:List Value}{l:List UInt32}{u:Value}(h:SB w g T pre l post)(a:g≠Z):SB (w.setCell ⟨Z,k,none⟩ u) g T pre l post:=a6K h a
theorem SB.drew{w:World}{g:Nat}{T:TypeId}{pre post:List Value}{l:List UInt32}(h:SB w g T pre l post):SB w.drew g T pre l post:=h
def Wd(w:World)(g:Nat)(l:List UInt32):Prop:=SB w g 350 [] l []
theorem Wd.cell{w:World}{g:Nat}{l:List UInt32}(h:Wd w g l)(i:Nat)(x:UInt32)(b:l[i]? =some x):w.cell? ⟨g,i,none⟩=some (.int .u32 (wd x)):=by
 obtain⟨a,rfl⟩:=AG.1 b;have:=SB.cell h i a
 rwa [Ay,AD] at this
theorem Wd.set{w:World}{g:Nat}{l l':List UInt32}(h:Wd w g l)(i:Nat)(b:i<l.length)(x:UInt32)(a:l.set i x=l'):Wd (w.setCell ⟨g,i,none⟩ (.int .u32 (wd x))) g l':=by
 have:=SB.set h i b x;rw[Ay,AD,a] at this;exact this
theorem Wd.made(w:World)(b:List UInt8):Wd (w.alloc (.cells #[.int .u32 0,.int .u32 0,.int .u32 0,.int .u32 0,.int .u32 0,.int .u32 0,.int .u32 0,.int .u32 0,.int .u32 0,.int .u32 0,.int .u32 0,.int .u32 0,.int .u32 0,.int .u32 0,.int .u32 0,.int .u32 0,.int .u32 0,.int .u32 0,.int .u32 0,.int .u32 0,.int .u32 0,.int .u32 0,.int .u32 0,.int .u32 0,.int .u32 0,.int .u32 0,.int .u32 0,.int .u32 0,.int .u32 0,.int .u32 0,.int .u32 0,.int .u32 0,.int .u32 0,.int .u32 0,.int .u32 0,.int .u32 0,.int .u32 0,.int .u32 0,.int .u32 0,.int .u32 0,.int .u32 0,.int .u32 0,.int .u32 0,.int .u32 0,.int .u32 0,.int .u32 0,.int .u32 0,.int .u32 0,.int .u32 0,.int .u32 0,.int .u32 0,.int .u32 0,.int .u32 0,.int .u32 0,.int .u32 0,.int .u32 0,.int .u32 0,.int .u32 0,.int .u32 0,.int .u32 0,.int .u32 0,.int .u32 0,.int .u32 0,.int .u32 0] 350)) w.heap.size (a2x b 0):=
 (Ae w _).trans rfl
def b8F(s r:S8)(i:Nat):List UInt32:=(s.add r).list.take i ++s.list.drop i
theorem b3Y(s r:S8):b8F s r 8=(s.add r).list:=rfl
theorem b7D(s r:S8)(i:Nat)(h:i<8):∃x y,(b8F s r i)[i]? =some x/\r.list[i]? =some y/\(b8F s r i).set i (x+y)=b8F s r (i+1):=by
 match i,h with
 | 0,_=>exact ⟨_,_,rfl,rfl,rfl⟩
 | 1,_=>exact ⟨_,_,rfl,rfl,rfl⟩
 | 2,_=>exact ⟨_,_,rfl,rfl,rfl⟩
 | 3,_=>exact ⟨_,_,rfl,rfl,rfl⟩
 | 4,_=>exact ⟨_,_,rfl,rfl,rfl⟩
 | 5,_=>exact ⟨_,_,rfl,rfl,rfl⟩
 | 6,_=>exact ⟨_,_,rfl,rfl,rfl⟩
 | 7,_=>exact ⟨_,_,rfl,rfl,rfl⟩
theorem b0O(g:Nat)(T:TypeId)(pre post:List Value)(s:S8)(kb ko:Nat)(b off F cap:Nat)(xs:List UInt8)(w:World)
  (hs:SB w g T pre s.list post) (hK:∀i,i<64->w.cell? ⟨kb,ko+i,none⟩=some (.int .u32 (wd (KK.getD i 0)))) (Y:Bs w (some ⟨b,off,none⟩) F cap xs) (ay:64<=F):
  Calls Tryz.prog 310 #[.pointer (some ⟨g,pre.length,none⟩),.slice (some ⟨b,off,none⟩) F cap,.pointer (some ⟨kb,ko,none⟩)] w fun e w'=>e= .returned (.tuple #[])/\SB w' g T pre (a9J s xs).list post/\Chg (fun k=>k=g) w w':=by
 obtain⟨B,v⟩:=qnm w.heap.size;have H:=Wd.made w xs;have G:=(Ext.refl w).alloc (.cells #[.int .u32 0,.int .u32 0,.int .u32 0,.int .u32 0,.int .u32 0,.int .u32 0,.int .u32 0,.int .u32 0,.int .u32 0,.int .u32 0,.int .u32 0,.int .u32 0,.int .u32 0,.int .u32 0,.int .u32 0,.int .u32 0,.int .u32 0,.int .u32 0,.int .u32 0,.int .u32 0,.int .u32 0,.int .u32 0,.int .u32 0,.int .u32 0,.int .u32 0,.int .u32 0,.int .u32 0,.int .u32 0,.int .u32 0,.int .u32 0,.int .u32 0,.int .u32 0,.int .u32 0,.int .u32 0,.int .u32 0,.int .u32 0,.int .u32 0,.int .u32 0,.int .u32 0,.int .u32 0,.int .u32 0,.int .u32 0,.int .u32 0,.int .u32 0,.int .u32 0,.int .u32 0,.int .u32 0,.int .u32 0,.int .u32 0,.int .u32 0,.int .u32 0,.int .u32 0,.int .u32 0,.int .u32 0,.int .u32 0,.int .u32 0,.int .u32 0,.int .u32 0,.int .u32 0,.int .u32 0,.int .u32 0,.int .u32 0,.int .u32 0,.int .u32 0] 350);rw[<-v] at H G;have U:=qh v;have ae:g<B:=by rw[v];exact hs.lt
 have aj:kb<B:=by rw[v];exact World.block_lt_of_cell? w _ (hK 0 (by omega))
 have aJ:=Y.2.1;have al:=Y.2.2.1;unfold maxLen at al;have HX:Hid (b<B/\∀i,i<64->w.cell? ⟨b,off+i,none⟩=some (.int .u8 ((xs.getD i 0).toNat:Int))):=by
  refine qh ?_;have h1:=Y.1;rcases Y.2.2.2 with h | ⟨b',ao,h4,h5,h6⟩
  ·omega
  ·injection h4 with h4;injection h4 with e1 e2;subst e1 e2
   refine⟨by rw[v];exact h5,fun i hi=>?_⟩;rw[h6 i (by omega),List.getD_eq_getElem?_getD,List.getElem?_eq_getElem (by omega)];rfl
 have HS:=qh hs;have HK:=qh hK;clear hs hK Y v;go_enter Tryz.func310,Tryz.ntmps310;go_upto_block 0 with fail
 rw[<-U.out];generalize w.alloc (.cells #[.int .u32 0,.int .u32 0,.int .u32 0,.int .u32 0,.int .u32 0,.int .u32 0,.int .u32 0,.int .u32 0,.int .u32 0,.int .u32 0,.int .u32 0,.int .u32 0,.int .u32 0,.int .u32 0,.int .u32 0,.int .u32 0,.int .u32 0,.int .u32 0,.int .u32 0,.int .u32 0,.int .u32 0,.int .u32 0,.int .u32 0,.int .u32 0,.int .u32 0,.int .u32 0,.int .u32 0,.int .u32 0,.int .u32 0,.int .u32 0,.int .u32 0,.int .u32 0,.int .u32 0,.int .u32 0,.int .u32 0,.int .u32 0,.int .u32 0,.int .u32 0,.int .u32 0,.int .u32 0,.int .u32 0,.int .u32 0,.int .u32 0,.int .u32 0,.int .u32 0,.int .u32 0,.int .u32 0,.int .u32 0,.int .u32 0,.int .u32 0,.int .u32 0,.int .u32 0,.int .u32 0,.int .u32 0,.int .u32 0,.int .u32 0,.int .u32 0,.int .u32 0,.int .u32 0,.int .u32 0,.int .u32 0,.int .u32 0,.int .u32 0,.int .u32 0] 350)=w0 at *;go_cut [6] (fun p wr=>p= .pointer (some ⟨B,0,none⟩)/\Wd wr B (a2x xs 16)/\Ext B w wr);case first=>
  go_wp2_with fail;go_loopw [26] (fun i wr=>∃k:Nat,k<=16/\i= .int .i64 k/\Wd wr B (a2x xs k)/\Ext B w wr) (fun i _=>16 - (intOf i).toNat);case atStart=>exact ⟨0,by omega,rfl,H,G⟩
  case round=>
   obtain⟨k,hk,rfl,o,m⟩:=hrel;clear H G;by_cases t:k<16
   ·obtain⟨a9,S⟩:=HX.out;have q:=fun j (hj:k * 4+j<64)=>(m.1.cell (p:=⟨b,off+(k * 4+j),none⟩) a9).trans (S (k * 4+j) hj)
    have q0:=q 0 (by omega);have q1:=q 1 (by omega);have q2:=q 2 (by omega);have q3:=q 3 (by omega);simp only[<-Nat.add_assoc,BT] at q0 q1 q2 q3;have HL:=qh (b58 b (off+k * 4) (cap - k * 4) (F - k * 4) _ _ _ _ wr (by omega) q0 q1 q2 q3);have V:b80 (xs.getD (k * 4) 0) (xs.getD (k * 4+1) 0) (xs.getD (k * 4+2) 0) (xs.getD (k * 4+3) 0)=a4t xs k:=by
     unfold a4t;rw[Cy]
    rw[V] at HL;have z:=a7o xs k (by omega) (a4t xs k) (by rw[Ah t]);have D:=o.set k (by rw[a4L _ _ (by omega)];omega) _ z;have C:=m.setCell (p:=⟨B,k,none⟩) (Aa _) (.int .u32 (wd (a4t xs k)));have hc:=o.cell k 0 (by rw[a2x,AM (by rw[a0Y];omega),a0Y,Nat.sub_self,List.getElem?_replicate,Ah (by omega)]);have hf:=SB.frozen o k;have aI:k * 4<cap:=by omega
    clear S q q0 q1 q2 q3 V z a9 o;go_wp2_with fail;refine HL.out.mono ?_;rintro e K ⟨rfl,rfl⟩;go_wp2_with fail;go_roundw;case rel=>exact ⟨k+1,by omega,by go_num,D,C⟩
    case measure=>simp [intOf];omega
   ·obtain rfl:k=16:=by omega
    go_wp2_with fail;go_meet;exact⟨rfl,o,m⟩
 case rest=>
  obtain⟨rfl,o,m⟩:=hcut;clear H G;go_upto_block 2 with fail
  go_cut [6] (fun p wr=>p= .pointer (some ⟨B,0,none⟩)/\Wd wr B (a19 xs 64)/\Ext B w wr);case first=>
   go_wp2_with fail;go_loopw [8] (fun i wr=>∃k:Nat,16<=k/\k<=64/\i= .int .i64 k/\Wd wr B (a2x xs k)/\Ext B w wr) (fun i _=>64 - (intOf i).toNat);case atStart=>exact ⟨16,by omega,by omega,rfl,o,m⟩
   case round=>
    obtain⟨k,ap,hk,rfl,l,n⟩:=hrel;clear o m;by_cases t:k<64
    ·have az:=l.cell (k - 15) _ (a4M xs k (k - 15) (by omega));have c2:=l.cell (k - 2) _ (a4M xs k (k - 2) (by omega));have aB:=l.cell (k - 16) _ (a4M xs k (k - 16) (by omega));have c7:=l.cell (k - 7) _ (a4M xs k (k - 7) (by omega));have z:=a7o xs k (by omega) (b3O (a19 xs k) k) (by rw[Ag (by omega)]);have D:=l.set k (by rw[a4L _ _ (by omega)];omega) _ z;have C:=n.setCell (p:=⟨B,k,none⟩) (Aa _) (.int .u32 (wd (b3O (a19 xs k) k)));rw[b0n] at D C;have hc:=l.cell k 0 (by rw[a2x,AM (by rw[a0Y];omega),a0Y,Nat.sub_self,List.getElem?_replicate,Ah (by omega)]);have hf:=SB.frozen l k;clear z l;unfold b85 b84 at D C;generalize(a19 xs k).getD (k - 15) 0=J at *;generalize(a19 xs k).getD (k - 2) 0=x2 at *;generalize(a19 xs k).getD (k - 16) 0=aG at *;generalize(a19 xs k).getD (k - 7) 0=x7 at *;have ax:IntKind.i64.wrap ((k:Int) - 15)=(k:Int) - 15:=Ak _ (by omega);have aF:(0:Int)<=(k:Int) - 15:=by omega
     have av:(k:Int) - 15<64:=by omega
     have aD:(15:Int)<=(k:Int):=by omega
     have ar:(k:Int)<79:=by omega
     have au:((k:Int) - 15).toNat=k - 15:=by omega
     have i2:IntKind.i64.wrap ((k:Int) - 2)=(k:Int) - 2:=Ak _ (by omega);have n2:(0:Int)<=(k:Int) - 2:=by omega
     have m2:(k:Int) - 2<64:=by omega
     have o2:(2:Int)<=(k:Int):=by omega
     have p2:(k:Int)<66:=by omega
     have t2:((k:Int) - 2).toNat=k - 2:=by omega
     have aC:IntKind.i64.wrap ((k:Int) - 16)=(k:Int) - 16:=Ak _ (by omega);have aH:(0:Int)<=(k:Int) - 16:=by omega
     have aK:(k:Int) - 16<64:=by omega
     have aw:(16:Int)<=(k:Int):=by omega
     have aE:(k:Int)<80:=by omega
     have aq:((k:Int) - 16).toNat=k - 16:=by omega
     have i7:IntKind.i64.wrap ((k:Int) - 7)=(k:Int) - 7:=Ak _ (by omega);have n7:(0:Int)<=(k:Int) - 7:=by omega
     have m7:(k:Int) - 7<64:=by omega
     have o7:(7:Int)<=(k:Int):=by omega
     have p7:(k:Int)<71:=by omega
     have t7:((k:Int) - 7).toNat=k - 7:=by omega
     go_upto_region 9 with fail
     go_region_held3 (fun w'=>w'.cell? ⟨B,k - 15,none⟩=some (.int .u32 (wd J))/\w'.cell? ⟨B,k - 2,none⟩=some (.int .u32 (wd x2))) (go_keep) (fail);go_wp2_with fail;refine(b87 J _).mono ?_;rintro e K ⟨rfl,rfl⟩;go_wp2_with fail;refine(b8x J _).mono ?_;rintro e K ⟨rfl,rfl⟩;go_wp2_with fail;refine(b8y x2 _).mono ?_;rintro e K ⟨rfl,rfl⟩;go_wp2_with fail;refine(b8w x2 _).mono ?_;rintro e K ⟨rfl,rfl⟩;have aA:k - 16≠k:=by omega
     have z7:k - 7≠k:=by omega
     go_upto_region 12 with fail
     refine b2H 15 (by kernel_rfl) (by kernel_rfl) ?_;simp only[BL,BN,BM,BP];repeat still_step
     refine AK ?_;go_wp2_with fail;go_roundw;case rel=>exact ⟨k+1,by omega,by omega,by go_num,D.drew,C.drew.drew⟩
     case measure=>simp [intOf];omega
    ·obtain rfl:k=64:=by omega
     rw[b0h] at l;go_wp2_with fail;go_meet;exact⟨rfl,l,n⟩
  case rest=>
   obtain⟨rfl,o,m⟩:=hcut;have E:=fun j (hj:j<8)=>(m.1.cell (p:=⟨g,pre.length+j,none⟩) ae).trans (HS.out.cell j hj)
   have g0:=E 0 (by omega);have g1:=E 1 (by omega);have g2:=E 2 (by omega);have g3:=E 3 (by omega);have g4:=E 4 (by omega);have g5:=E 5 (by omega);have g6:=E 6 (by omega);have g7:=E 7 (by omega);rw[BT] at g0;simp only[S8.list,List.getElem_cons_zero,List.getElem_cons_succ] at g0 g1 g2 g3 g4 g5 g6 g7;have M:=m.2;have ah:g<wc.heap.size:=by omega
   clear E;go_upto_region 13 with fail
   refine a4f (by kernel_rfl) (by kernel_rfl) ?_;repeat (go_big_quiet_step (fail))
   refine wpQuiet_nil ?_;rintro _ ⟨nq,rfl⟩;have m:=m.step (a3n wc nq);have o:=SB.below o (a3n wc nq);generalize World.over wc nq=w2 at *;clear g0 g1 g2 g3 g4 g5 g6 g7 M ah;go_upto_block 4 with fail
   go_cut [13,14,15,16,17,18,19,20] (fun a1 a2 a3 a4 a5 a6 a7 a8 wr=>∃r:S8,r=b6U xs s 64/\a1= .int .u32 (wd r.a)/\a2= .int .u32 (wd r.b)/\a3= .int .u32 (wd r.c)/\a4= .int .u32 (wd r.d)/\a5= .int .u32 (wd r.e)/\a6= .int .u32 (wd r.f)/\a7= .int .u32 (wd r.g)/\a8= .int .u32 (wd r.h)/\Ext B w wr);case first=>
    go_wp2_with fail;go_loopw [13,14,15,16,17,18,19,20,112] (fun a1 a2 a3 a4 a5 a6 a7 a8 i wr=>∃(k:Nat) (r:S8),k<=64/\i= .int .i64 k/\r=b6U xs s k/\a1= .int .u32 (wd r.a)/\a2= .int .u32 (wd r.b)/\a3= .int .u32 (wd r.c)/\a4= .int .u32 (wd r.d)/\a5= .int .u32 (wd r.e)/\a6= .int .u32 (wd r.f)/\a7= .int .u32 (wd r.g)/\a8= .int .u32 (wd r.h)/\Wd wr B (a19 xs 64)/\Ext B w wr) (fun _ _ _ _ _ _ _ _ i _=>64 - (intOf i).toNat);case atStart=>exact ⟨0,s,by omega,rfl,rfl,rfl,rfl,rfl,rfl,rfl,rfl,rfl,rfl,o,m⟩
    case round=>
     obtain⟨k,r,hk,rfl,hr,rfl,rfl,rfl,rfl,rfl,rfl,rfl,rfl,l,n⟩:=hrel;have HR:=qh hr;clear hr o m;by_cases t:k<64
     ·have cW:=l.cell k ((a19 xs 64).getD k 0) (by rw[List.getD_eq_getElem?_getD,List.getElem?_eq_getElem (by rw[a0Y];omega)];rfl);have cK:=(n.1.cell (p:=⟨kb,ko+k,none⟩) aj).trans (HK.out k t);have Q:r.rnd (KK.getD k 0) ((a19 xs 64).getD k 0)=b6U xs s (k+1):=by rw[HR.out];rfl
      generalize(a19 xs 64).getD k 0=W at *;generalize KK.getD k 0=Kx at *;have ag:=qh Q;have M:=SB.lt l;have am:kb<wr.heap.size:=by omega
      clear Q;obtain⟨ra,rb,rc,rd,re,rf,rg,rh⟩:=r;simp only at *;go_upto_region 17 with fail
      refine a4f (by kernel_rfl) (by kernel_rfl) ?_;repeat (go_big_quiet_step ((go_at_call 332;first | (with_reducible apply orot_6) | (with_reducible apply orot_11) | (with_reducible apply orot_25))))
      refine wpQuiet_nil ?_;rintro _ ⟨nq,rfl⟩;have ai:=SB.below l (a3n wr nq);have ak:=n.step (a3n wr nq);generalize World.over wr nq=w3 at *;clear l n cW cK M am;go_wp2_with fail;refine(b89 ra _).mono ?_;rintro e K ⟨rfl,rfl⟩;go_wp2_with fail;refine(b8z ra _).mono ?_;rintro e K ⟨rfl,rfl⟩;go_wp2_with fail;refine(b8v ra _).mono ?_;rintro e K ⟨rfl,rfl⟩;go_wp2_with fail;go_roundw;case rel=>exact ⟨k+1,(⟨ra,rb,rc,rd,re,rf,rg,rh⟩:S8).rnd Kx W,by omega,by go_num,ag.out,rfl,rfl,rfl,rfl,rfl,rfl,rfl,rfl,ai,ak⟩
      case measure=>simp [intOf];omega
     ·obtain rfl:k=64:=by omega
      go_wp2_with fail;go_meet;exact⟨r,HR.out,rfl,rfl,rfl,rfl,rfl,rfl,rfl,rfl,n⟩
   case rest=>
    obtain⟨r,hr,rfl,rfl,rfl,rfl,rfl,rfl,rfl,rfl,m⟩:=hcut;have A:a9J s xs=s.add r:=by rw[hr];rfl
    have HC:=qh A;clear hr A o;have ac:SB wc g T pre s.list post:=(m.1.block g ae).trans HS.out;have ad:=SB.below ac ((Ab _ _).alloc (Aa _) (.cells #[.int .u32 (wd r.a),.int .u32 (wd r.b),.int .u32 (wd r.c),.int .u32 (wd r.d),.int .u32 (wd r.e),.int .u32 (wd r.f),.int .u32 (wd r.g),.int .u32 (wd r.h)] 193));have L:SB (wc.alloc (.cells #[.int .u32 (wd r.a),.int .u32 (wd r.b),.int .u32 (wd r.c),.int .u32 (wd r.d),.int .u32 (wd r.e),.int .u32 (wd r.f),.int .u32 (wd r.g),.int .u32 (wd r.h)] 193)) wc.heap.size 193 [] r.list []:=Ae wc _;have aa:=m.alloc (.cells #[.int .u32 (wd r.a),.int .u32 (wd r.b),.int .u32 (wd r.c),.int .u32 (wd r.d),.int .u32 (wd r.e),.int .u32 (wd r.f),.int .u32 (wd r.g),.int .u32 (wd r.h)] 193);obtain⟨R,hR⟩:=qnm wc.heap.size;have an:g≠R:=by have:=m.2;omega
    rw[<-hR] at L;have af:=qh hR;have ab:Chg (fun q=>q=g) w (wc.alloc (.cells #[.int .u32 (wd r.a),.int .u32 (wd r.b),.int .u32 (wd r.c),.int .u32 (wd r.d),.int .u32 (wd r.e),.int .u32 (wd r.f),.int .u32 (wd r.g),.int .u32 (wd r.h)] 193)):=by
     refine Chg.of_below ?_ _;rw[<-U.out];exact aa.1
    clear hR ac aa m;go_upto_block 6 with fail
    rw[<-af.out];generalize wc.alloc (.cells #[.int .u32 (wd r.a),.int .u32 (wd r.b),.int .u32 (wd r.c),.int .u32 (wd r.d),.int .u32 (wd r.e),.int .u32 (wd r.f),.int .u32 (wd r.g),.int .u32 (wd r.h)] 193)=w0 at *;go_wp2_with fail;go_loopw [187] (fun i wr=>∃k:Nat,k<=8/\i= .int .i64 k/\SB wr g T pre (b8F s r k) post/\SB wr R 193 [] r.list []/\Chg (fun q=>q=g) w wr) (fun i _=>8 - (intOf i).toNat);case atStart=>exact ⟨0,by omega,rfl,ad,L,ab⟩
    case round=>
     obtain⟨k,hk,rfl,O,k2,k3⟩:=hrel;clear ad L ab;by_cases t:k<8
     ·obtain⟨x,y,S,hy,I⟩:=b7D s r k t;obtain⟨N,X⟩:=AG.1 S;obtain⟨a0,P⟩:=AG.1 hy;have c1:=SB.cell O k N;have c2:=SB.cell k2 k a0;rw[X] at c1;rw[P,Ay,AD] at c2;have f1:=SB.frozen O (pre.length+k);have s1:=SB.set O k N (x+y);rw[I] at s1;have s2:=SB.far (Z:=g) (k:=pre.length+k) (u:=.int .u32 (wd (x+y))) k2 (Ne.symm an);have s3:=k3.setCell (p:=⟨g,pre.length+k,none⟩) (fun _=>rfl) (.int .u32 (wd (x+y)));have e1:(0:Int)<=(k:Int):=by omega
      have e2:(k:Int)<8:=by omega
      clear S hy I N X a0 P O k2 k3;go_upto_region 24 with fail
      refine b2H 9 (by kernel_rfl) (by kernel_rfl) ?_;simp only[BL,BN,BM,BP];repeat still_step
      refine AK ?_;go_wp2_with fail;go_roundw;case rel=>exact ⟨k+1,by omega,by go_num,s1.drew,s2.drew,s3.drew⟩
      case measure=>simp [intOf];omega
     ·obtain rfl:k=8:=by omega
      rw[b3Y,<-HC.out] at O;go_wp2_with fail;go_end0;exact⟨rfl,O,k3⟩
abbrev T64:TypeId:=350
abbrev T8:TypeId:=389
abbrev TSm:TypeId:=393
theorem a2K{P:Program}{c:Array Oper}{rest:List Oper}{o:Oper}{a:Act}{w:World}{Q:Exit->Act->World->Prop}(e:o.guard=none)(t:TypeId)(b:Array (Nat×Operand))(f:o.op= .build t b)(v:Array Value)
  (d:P.built t (b.map fun(i,x)=>(i,a.eval x)).toList=some v) (h:wpList P c Q rest (a.put o.dst (.agg v)) w):wpList P c Q (o :: rest) a w:=
 wpList_build e t b f (by rw[d];rfl) (by rw[d];exact h)
def KV:Array Value:=(KK.map uv).toArray
def BV:Array Value:=(b4O.list.map uv).toArray
theorem Ext.setRow{B:Nat}{a w:World}(h:Ext B a w){g:Nat}(d:B<=g)(b:Array Value):Ext B a (w.setRow g b):=
 ⟨h.1.trans (c:=w.setRow g b) ⟨rfl,rfl,rfl,by simp,fun k hk=>BY w g k _ (by omega)⟩,by have:=h.2;simp;omega⟩
theorem a8s(w:World):
  Calls Tryz.prog 309 #[] w fun e w'=>e= .returned (.agg KV)/\Below w.heap.size w w':=by
 have b:=Ae w (.cells #[.int .u32 0,.int .u32 0,.int .u32 0,.int .u32 0,.int .u32 0,.int .u32 0,.int .u32 0,.int .u32 0,.int .u32 0,.int .u32 0,.int .u32 0,.int .u32 0,.int .u32 0,.int .u32 0,.int .u32 0,.int .u32 0,.int .u32 0,.int .u32 0,.int .u32 0,.int .u32 0,.int .u32 0,.int .u32 0,.int .u32 0,.int .u32 0,.int .u32 0,.int .u32 0,.int .u32 0,.int .u32 0,.int .u32 0,.int .u32 0,.int .u32 0,.int .u32 0,.int .u32 0,.int .u32 0,.int .u32 0,.int .u32 0,.int .u32 0,.int .u32 0,.int .u32 0,.int .u32 0,.int .u32 0,.int .u32 0,.int .u32 0,.int .u32 0,.int .u32 0,.int .u32 0,.int .u32 0,.int .u32 0,.int .u32 0,.int .u32 0,.int .u32 0,.int .u32 0,.int .u32 0,.int .u32 0,.int .u32 0,.int .u32 0,.int .u32 0,.int .u32 0,.int .u32 0,.int .u32 0,.int .u32 0,.int .u32 0,.int .u32 0,.int .u32 0] 350);have d:=(Ext.refl w).alloc (.cells #[.int .u32 0,.int .u32 0,.int .u32 0,.int .u32 0,.int .u32 0,.int .u32 0,.int .u32 0,.int .u32 0,.int .u32 0,.int .u32 0,.int .u32 0,.int .u32 0,.int .u32 0,.int .u32 0,.int .u32 0,.int .u32 0,.int .u32 0,.int .u32 0,.int .u32 0,.int .u32 0,.int .u32 0,.int .u32 0,.int .u32 0,.int .u32 0,.int .u32 0,.int .u32 0,.int .u32 0,.int .u32 0,.int .u32 0,.int .u32 0,.int .u32 0,.int .u32 0,.int .u32 0,.int .u32 0,.int .u32 0,.int .u32 0,.int .u32 0,.int .u32 0,.int .u32 0,.int .u32 0,.int .u32 0,.int .u32 0,.int .u32 0,.int .u32 0,.int .u32 0,.int .u32 0,.int .u32 0,.int .u32 0,.int .u32 0,.int .u32 0,.int .u32 0,.int .u32 0,.int .u32 0,.int .u32 0,.int .u32 0,.int .u32 0,.int .u32 0,.int .u32 0,.int .u32 0,.int .u32 0,.int .u32 0,.int .u32 0,.int .u32 0,.int .u32 0] 350);obtain⟨G,a⟩:=qnm w.heap.size;rw[<-a] at b d⊢;have g:=qh a;have c:=qh b;clear b a;go_enter Tryz.func309,Tryz.ntmps309;go_upto_region 1 with fail
 rw[<-g.out];generalize w.alloc (.cells #[.int .u32 0,.int .u32 0,.int .u32 0,.int .u32 0,.int .u32 0,.int .u32 0,.int .u32 0,.int .u32 0,.int .u32 0,.int .u32 0,.int .u32 0,.int .u32 0,.int .u32 0,.int .u32 0,.int .u32 0,.int .u32 0,.int .u32 0,.int .u32 0,.int .u32 0,.int .u32 0,.int .u32 0,.int .u32 0,.int .u32 0,.int .u32 0,.int .u32 0,.int .u32 0,.int .u32 0,.int .u32 0,.int .u32 0,.int .u32 0,.int .u32 0,.int .u32 0,.int .u32 0,.int .u32 0,.int .u32 0,.int .u32 0,.int .u32 0,.int .u32 0,.int .u32 0,.int .u32 0,.int .u32 0,.int .u32 0,.int .u32 0,.int .u32 0,.int .u32 0,.int .u32 0,.int .u32 0,.int .u32 0,.int .u32 0,.int .u32 0,.int .u32 0,.int .u32 0,.int .u32 0,.int .u32 0,.int .u32 0,.int .u32 0,.int .u32 0,.int .u32 0,.int .u32 0,.int .u32 0,.int .u32 0,.int .u32 0,.int .u32 0,.int .u32 0] 350)=f at *;go_wp2_with (first | (refine a2K rfl T64 _ rfl KV (by kernel_rfl) ?_) | (refine Ao rfl T64 _ _ rfl G KV rfl rfl T64 _ c.out (by kernel_rfl) (by kernel_rfl) (by kernel_rfl) ?_));refine Aj (v:=.agg KV) ?_ rfl ⟨rfl,?_⟩
 ·exact Ap rfl _ _ G T64 _ (0,0) _ rfl (AF f G _ _ T64 (0,0) c.out) Tryz.underlying350 rfl (by kernel_rfl)
 ·exact(d.setRow (Aa _) _).1
theorem b4N(w:World):
  Calls Tryz.prog 308 #[] w fun e w'=>e= .returned (.agg BV)/\Below w.heap.size w w':=by
 have b:=Ae w (.cells #[.int .u32 0,.int .u32 0,.int .u32 0,.int .u32 0,.int .u32 0,.int .u32 0,.int .u32 0,.int .u32 0] 389);have d:=(Ext.refl w).alloc (.cells #[.int .u32 0,.int .u32 0,.int .u32 0,.int .u32 0,.int .u32 0,.int .u32 0,.int .u32 0,.int .u32 0] 389);obtain⟨G,a⟩:=qnm w.heap.size;rw[<-a] at b d⊢;have g:=qh a;have c:=qh b;clear b a;go_enter Tryz.func308,Tryz.ntmps308;go_upto_region 1 with fail
 rw[<-g.out];generalize w.alloc (.cells #[.int .u32 0,.int .u32 0,.int .u32 0,.int .u32 0,.int .u32 0,.int .u32 0,.int .u32 0,.int .u32 0] 389)=f at *;go_wp2_with (first | (refine a2K rfl T8 _ rfl BV (by kernel_rfl) ?_) | (refine Ao rfl T8 _ _ rfl G BV rfl rfl T8 _ c.out (by kernel_rfl) (by kernel_rfl) (by kernel_rfl) ?_));refine Aj (v:=.agg BV) ?_ rfl ⟨rfl,?_⟩
 ·exact Ap rfl _ _ G T8 _ (0,0) _ rfl (AF f G _ _ T8 (0,0) c.out) Tryz.underlying389 rfl (by kernel_rfl)
 ·exact(d.setRow (Aa _) _).1
def Strm(w:World)(B p:Nat)(g:Option Nat)(xs:List UInt8):Prop:=
 B<=p/\∃v,SB w p 393 [] (hashed xs).list (KK.map uv ++[v,.int .i64 (xs.length:Int)])/\Own w B v (a1P xs)/\v.ownBlock=g/\g≠some p
theorem b1I(w:World):
  Calls Tryz.prog 273 #[] w fun e w'=>∃p,e= .returned (.pointer (some ⟨p,0,none⟩))/\Strm w' w.heap.size p none []/\Below w.heap.size w w':=by
 go_enter Tryz.func273,Tryz.ntmps273;go_wp2_with fail;refine(b4N _).mono ?_;rintro e b ⟨rfl,hb1⟩;go_wp2_with fail;refine(a8s _).mono ?_;rintro e w2 ⟨rfl,hb2⟩;go_wp2_with (first | (refine a2K rfl TSm _ rfl (BV ++(KV ++ #[.slice none 0 0,.int .i64 0])) (by kernel_rfl) ?_));go_ret;have a:=(((Ext.refl w).step hb1).step hb2).alloc (.cells (BV ++(KV ++ #[.slice none 0 0,.int .i64 0])) 393);refine⟨w2.heap.size,rfl,⟨?_,.slice none 0 0,?_,Own.nil _ _,rfl,by simp⟩,a.1⟩
 ·exact(((Ext.refl w).step hb1).step hb2).2
 ·refine(Ae w2 _).trans ?_;congr 2
theorem b8G(w:World)(o:Obj):w.heap.size<(w.alloc o).heap.size:=by simp
theorem Bs.one(w:World)(x:UInt8):Bs (w.alloc (.cells #[.int .u8 (x.toNat:Int)] TB)) (some ⟨w.heap.size,0,none⟩) 1 1 [x]:=
 Bs.newRow w _ TB (0,0) 1 1 [x] rfl (Aa _) (by simp[maxLen]) rfl
theorem a1g{w W:World}{B:Nat}{v:Value}{xs:List UInt8}(f:Ext B w W)(h:Own W B v xs)(b:Int)(x:UInt8)(m:b=(x.toNat:Int))(q:xs.length<=2000000){c:Array Oper}{rest:List Oper}{o:Oper}{a:Act}{Q:Exit->Act->World->Prop}(e:o.guard=none)(s y:Operand)
  (j:o.op= .call { callee:=.builtin .append,args:=#[s,y],argTypes:=#[30,30] }) (p:a.eval s=v) (i:a.eval y= .slice (some ⟨W.heap.size,0,none⟩) 1 1)
  (l:∀d W',Ext B w W'->Own W' B d (xs ++[x])->Chg (fun k=>v.ownBlock=some k) W W'->wpList Tryz.prog c Q rest (a.put o.dst d) W'):wpList Tryz.prog c Q (o :: rest) a (W.alloc (.cells #[.int .u8 b] TB)):=by
 subst m;refine a1o e s y j B v xs p (h.alloc _) _ 1 1 [x] i (Bs.one W x) (by omega) (by have:=f.2;simp;omega) fun d W' n g _=>l d W' ?_ n ?_
 ·exact(f.alloc _).grown g (fun k hk=>(A8 h k hk).1)
 ·exact((Chg.refl _ W).alloc _).grown g (fun k _ hk=>hk)
def a9H(xs:List UInt8)(k:Nat):List UInt8:=xs ++[0x80] ++List.replicate k 0
theorem b3F(xs:List UInt8):xs ++[0x80]=a9H xs 0:=by simp[a9H]
theorem b3G(xs:List UInt8)(k:Nat):a9H xs k ++[0]=a9H xs (k+1):=by
 unfold a9H;rw[List.append_assoc _ (List.replicate k 0),<-List.replicate_succ']
theorem a3u(xs:List UInt8)(k:Nat):(a9H xs k).length=xs.length+1+k:=by simp[a9H];omega
theorem b6J(n j:Nat)(h:j<8):(a0Z.be8 n).take (j+1)=(a0Z.be8 n).take j ++[(a0Z.be8 n).getD j 0]:=by
 match j,h with
 | 0,_=>rfl
 | 1,_=>rfl
 | 2,_=>rfl
 | 3,_=>rfl
 | 4,_=>rfl
 | 5,_=>rfl
 | 6,_=>rfl
 | 7,_=>rfl
theorem b5K(xs:List UInt8)(n Z:Nat)(h:Z=(119 - xs.length % 64) % 64):a0Z xs n=a9H xs Z ++(a0Z.be8 n).take 8:=by subst h;rfl
theorem b3H(xs:List UInt8)(n:Nat):0<(a0Z xs n).length:=by simp[a0Z];omega
theorem a7R(n:Nat):((UInt8.ofNat n).toNat:Int)=(n:Int) % 256:=by rw[UInt8.toNat_ofNat'];omega
end
end Go.Proofs.YtbemfdcjieakdaaGreatDoor
