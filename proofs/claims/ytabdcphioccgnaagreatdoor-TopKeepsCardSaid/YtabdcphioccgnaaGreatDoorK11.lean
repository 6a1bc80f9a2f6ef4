/- ShaSum; ShaOf. -/
import Derived.Test.YtabdcphioccgnaaGreatDoorK05
import Derived.Test.YtabdcphioccgnaaGreatDoorK06
set_option maxRecDepth 100000
set_option maxHeartbeats 8000000
namespace Go.Proofs.YtabdcphioccgnaaGreatDoor
section
open Go.RowKit
theorem SB.at00 {w : World} {g : Nat} {T : TypeId} {l : List UInt32} (h : SB w g T [] l []) (i : Nat) (x : UInt32) (hi : l[i]? = some x) : w.cell? ⟨g,i,none⟩ = some (.int .u32 (wd x)):=by
 obtain ⟨hl,rfl⟩:=List.getElem?_eq_some_iff.1 hi
 have:=SB.cell h i hl
 rwa [List.length_nil,Nat.zero_add] at this
theorem Ext.upto {B : Nat} {a w w' : World} (h : Ext B a w) (hb : Below B w w') : Ext B a w':=⟨h.1.trans hb,Nat.le_trans h.2 hb.size⟩
theorem append_word {w W : World} {B : Nat} {v : Value} {xs : List UInt8} (hE : Ext B w W) (h : Own W B v xs) (b0 b1 b2 b3 : Int) (x : UInt32) (h0 : b0 = wd x / 16777216 % 256) (h1 : b1 = wd x / 65536 % 256) (h2 : b2 = wd x / 256 % 256) (h3 : b3 = wd x % 256) (hl : xs.length <= 2000000) {ops : Array Oper} {rest : List Oper} {o : Oper} {a : Act} {Q : Exit -> Act -> World -> Prop} (hgd : o.guard = none) (s y : Operand)
  (ho : o.op = .call { callee:=.builtin .append,args:=#[s,y],argTypes:=#[30,30] }) (hs : a.eval s = v) (hy : a.eval y = .slice (some ⟨W.heap.size,0,none⟩) 4 4)
  (hh : ∀ v' W',Ext B w W' -> Own W' B v' (xs ++ wbytes x) -> Chg (fun k => v.ownBlock = some k) W W' -> wpList Tryz.prog ops Q rest (a.put o.dst v') W') : wpList Tryz.prog ops Q (o :: rest) a (W.alloc (.cells #[.int .u8 b0,.int .u8 b1,.int .u8 b2,.int .u8 b3] TB)):=by
 have hB : Bs (W.alloc (.cells #[.int .u8 b0,.int .u8 b1,.int .u8 b2,.int .u8 b3] TB)) (some ⟨W.heap.size,0,none⟩) 4 4 (wbytes x):=by
  refine Bs.newRow W _ TB (0,0) 4 4 (wbytes x) rfl (Nat.le_refl _) (by simp [maxLen]) ?_
  subst h0 h1 h2 h3
  have e : ∀ n : Nat,bv (UInt8.ofNat n) = .int .u8 ((n : Int) % 256):=fun n => by rw [bv,u8_of]
  simp only [wbytes,List.map_cons,List.map_nil,e]
  unfold wd
  rfl
 refine wpList_append_bytes hgd s y ho B v xs hs (h.alloc _) _ 4 4 (wbytes x) hy hB (by omega) (by have:=hE.2; simp; omega) fun v' W' g1 g2 _ => hh v' W' ?_ g1 ?_
 ·exact (hE.alloc _).grown g2 (fun k hk => (World.ownsRow.lt h k hk).1)
 ·exact ((Chg.refl _ W).alloc _).grown g2 (fun k _ hk => hk)
theorem shasum_st (B p : Nat) (g : Option Nat) (xs : List UInt8) (w : World) (h : Strm w B p g xs) (hl : xs.length <= 1000000) :
  Calls Tryz.prog 219 #[.pointer (some ⟨p,0,none⟩)] w fun e w' => ∃ v,e = .returned v /\ Own w' w.heap.size v (sha xs) /\ Below w.heap.size w w':=by
 obtain ⟨hBp,v,hS,hO,hvg,hgp⟩:=h
 have hS : Sb w p (hashed xs).list v xs.length:=hS
 obtain ⟨r,hr⟩:=qnm ((held xs).length)
 obtain ⟨av,cv,rfl,hBv⟩:=hO.bsn hr.symm
 have hr64 : r < 64:=by rw [hr,held_length]; omega
 obtain ⟨H,hH⟩:=qnm w.heap.size
 rw [<- hH]
 have HH:=qh hH
 have hpH : p < H:=by rw [hH]; exact SB.lt hS
 have HS:=qh hS
 have HX:=qh hr
 obtain ⟨n0,hn0⟩:=qnm xs.length
 have HN:=qh hn0
 rw [<- hn0] at hl
 obtain ⟨Z,hZ⟩:=qnm ((119 - r % 64) % 64)
 have hZ1 : (r + 1 + Z) % 64 = 56:=by omega
 have hZ2 : ∀ k,k < Z -> (r + 1 + k) % 64 ≠ 56:=by omega
 have hZ3 : Z < 64:=by omega
 have HZ:=qh (aI hZ1 (aI hZ2 hZ))
 have HCl:=qh (clone_any av r cv (held xs) w hBv (by unfold big; omega))
 have c72:=hS.c72 (S8.list_length _)
 have c73:=hS.c73 (S8.list_length _)
 rw [<- hn0] at c73
 have HC:=qh (aI c72 c73)
 have hn0x:=hn0
 clear hS hO hH hr hn0 hZ hZ1 hZ2 hBv c73
 have HSH : Hid (sha xs = (blocks ((padTo (held xs) xs.length).length / 64) (hashed xs) (padTo (held xs) xs.length)).bytes):=qh (sha_held xs)
 rw [<- hn0x] at HSH
 clear hn0x
 generalize held xs = hd at *
 go_enter Tryz.func219,Tryz.ntmps219
 go_wp2_with fail
 refine HCl.out.mono ?_
 rintro e w1 ⟨v1,rfl,ho1,hb1⟩
 rw [<- HH.out] at ho1
 have hE1 : Ext H w w1:=by rw [HH.out]; exact (Ext.refl w).step hb1
 have hxm : hd.length <= 2000000:=by rw [<- HX.out]; omega
 clear c72 hb1
 go_wp2_with (at_builtin; refine append_byte hE1 ho1 _ 0x80 rfl hxm rfl _ _ rfl rfl rfl ?_)
 intro v2 w2 hE3 ho2 _
 rw [padZ_zero] at ho2
 clear hE1 ho1
 go_upto_block 0 with fail
 go_cut [3] (fun v wr => Ext H w wr /\ Own wr H v (padZ hd Z))
 case first =>
  obtain ⟨a2,c2,rfl,_⟩:=ho2.bsn (n:=r + 1) (by rw [padZ_length,HX.out])
  go_wp2_with fail
  go_loopw [3] (fun v wr => ∃ (k : Nat) (av : Option Addr) (cv : Nat),k <= Z /\ v = .slice av (r + 1 + k) cv /\ Ext H w wr /\ Own wr H v (padZ hd k)) (fun v _ => r + 1 + Z - lenOfS v)
  case atStart => exact ⟨0,a2,c2,by omega,rfl,hE3,ho2⟩
  case round =>
   obtain ⟨k,av,cv,hk,rfl,hE,ho⟩:=hrel
   clear hE3 ho2
   by_cases hlt : k < Z
   ·have hne : (((r + 1 + k : Nat) : Int) % 64 != 56) = true:=by rw [bne_iff_ne]; have:=HZ.out.2.1 k hlt; omega
    have hol : (padZ hd k).length <= 2000000:=by rw [padZ_length,<- HX.out]; omega
    go_wp2_with (at_builtin; refine append_byte hE ho _ 0 rfl hol rfl _ _ rfl rfl rfl ?_)
    intro v3 w3 hE3 ho3 _
    rw [padZ_succ] at ho3
    obtain ⟨a3,c3,rfl,_⟩:=ho3.bsn (n:=r + 1 + (k + 1)) (by rw [padZ_length,<- HX.out])
    go_wp2_with fail
    go_roundw
    case rel => exact ⟨k + 1,a3,c3,by omega,rfl,hE3,ho3⟩
    case measure => simp [lenOfS]; omega
   ·obtain rfl : k = Z:=by omega
    have hne : (((r + 1 + k : Nat) : Int) % 64 != 56) = false:=by rw [bne_eq_false_iff_eq]; have:=HZ.out.1; omega
    go_wp2_with fail
    go_meet
    exact ⟨hE,ho⟩
 case rest =>
  obtain ⟨hE,ho⟩:=hcut
  clear hE3 ho2
  have hpl : (padZ hd Z).length <= 1000100:=by rw [padZ_length,<- HX.out]; omega
  have c73:=(hE.1.cell (p:=⟨p,73,none⟩) hpH).trans HC.out.2
  go_upto_block 2 with fail
  go_cut [3] (fun v wr => Ext H w wr /\ Own wr H v (padTo hd n0))
  case first =>
   go_wp2_with fail
   go_loopw [3,5] (fun v i wr => ∃ j : Nat,j <= 8 /\ i = .int .i64 (7 - (j : Int)) /\ Ext H w wr /\ Own wr H v (padZ hd Z ++ (padTo.be8 n0).take j)) (fun _ i _ => (1 + intOf i).toNat)
   case atStart => exact ⟨0,by omega,rfl,hE,by simpa using ho⟩
   case round =>
    obtain ⟨j,hj,rfl,hE1,ho1⟩:=hrel
    clear hE ho
    by_cases hlt : j < 8
    ·have hol : (padZ hd Z ++ (padTo.be8 n0).take j).length <= 2000000:=by
      rw [List.length_append]
      have : ((padTo.be8 n0).take j).length <= j:=List.length_take_le _ _
      omega
     have htk:=be8_take n0 j hlt
     generalize hL : padZ hd Z ++ (padTo.be8 n0).take j = L at *
     have HL:=qh (show L ++ [(padTo.be8 n0).getD j 0] = padZ hd Z ++ (padTo.be8 n0).take (j + 1) by rw [htk,<- hL,List.append_assoc])
     clear htk hL
     rcases (show j = 0 ∨ j = 1 ∨ j = 2 ∨ j = 3 ∨ j = 4 ∨ j = 5 ∨ j = 6 ∨ j = 7 by omega) with rfl | rfl | rfl | rfl | rfl | rfl | rfl | rfl
     ·have hb0 : (((padTo.be8 n0).getD 0 0).toNat : Int) = ((8 * n0 / 72057594037927936 : Nat) : Int) % 256:=by
       show ((UInt8.ofNat (8 * n0 / 72057594037927936)).toNat : Int) = _
       rw [u8_of]
      generalize (padTo.be8 n0).getD 0 0 = x at *
      have HB:=qh hb0
      clear hb0
      go_wp2_with (at_builtin; refine append_byte hE1 ho1 _ x ?hb0 hol rfl _ _ rfl rfl rfl ?_)
      case hb0 => rw [HB.out]; omega
      intro v3 w3 hE3 ho3 _
      rw [HL.out] at ho3
      go_wp2_with fail
      go_roundw
      case rel => exact ⟨1,by omega,rfl,hE3,ho3⟩
      case measure => simp [intOf]
     ·have hb1 : (((padTo.be8 n0).getD 1 0).toNat : Int) = ((8 * n0 / 281474976710656 : Nat) : Int) % 256:=by
       show ((UInt8.ofNat (8 * n0 / 281474976710656)).toNat : Int) = _
       rw [u8_of]
      generalize (padTo.be8 n0).getD 1 0 = x at *
      have HB:=qh hb1
      clear hb1
      go_wp2_with (at_builtin; refine append_byte hE1 ho1 _ x ?hb1 hol rfl _ _ rfl rfl rfl ?_)
      case hb1 => rw [HB.out]; omega
      intro v3 w3 hE3 ho3 _
      rw [HL.out] at ho3
      go_wp2_with fail
      go_roundw
      case rel => exact ⟨2,by omega,rfl,hE3,ho3⟩
      case measure => simp [intOf]
     ·have hb2 : (((padTo.be8 n0).getD 2 0).toNat : Int) = ((8 * n0 / 1099511627776 : Nat) : Int) % 256:=by
       show ((UInt8.ofNat (8 * n0 / 1099511627776)).toNat : Int) = _
       rw [u8_of]
      generalize (padTo.be8 n0).getD 2 0 = x at *
      have HB:=qh hb2
      clear hb2
      go_wp2_with (at_builtin; refine append_byte hE1 ho1 _ x ?hb2 hol rfl _ _ rfl rfl rfl ?_)
      case hb2 => rw [HB.out]; omega
      intro v3 w3 hE3 ho3 _
      rw [HL.out] at ho3
      go_wp2_with fail
      go_roundw
      case rel => exact ⟨3,by omega,rfl,hE3,ho3⟩
      case measure => simp [intOf]
     ·have hb3 : (((padTo.be8 n0).getD 3 0).toNat : Int) = ((8 * n0 / 4294967296 : Nat) : Int) % 256:=by
       show ((UInt8.ofNat (8 * n0 / 4294967296)).toNat : Int) = _
       rw [u8_of]
      generalize (padTo.be8 n0).getD 3 0 = x at *
      have HB:=qh hb3
      clear hb3
      go_wp2_with (at_builtin; refine append_byte hE1 ho1 _ x ?hb3 hol rfl _ _ rfl rfl rfl ?_)
      case hb3 => rw [HB.out]; omega
      intro v3 w3 hE3 ho3 _
      rw [HL.out] at ho3
      go_wp2_with fail
      go_roundw
      case rel => exact ⟨4,by omega,rfl,hE3,ho3⟩
      case measure => simp [intOf]
     ·have hb4 : (((padTo.be8 n0).getD 4 0).toNat : Int) = ((8 * n0 / 16777216 : Nat) : Int) % 256:=by
       show ((UInt8.ofNat (8 * n0 / 16777216)).toNat : Int) = _
       rw [u8_of]
      generalize (padTo.be8 n0).getD 4 0 = x at *
      have HB:=qh hb4
      clear hb4
      go_wp2_with (at_builtin; refine append_byte hE1 ho1 _ x ?hb4 hol rfl _ _ rfl rfl rfl ?_)
      case hb4 => rw [HB.out]; omega
      intro v3 w3 hE3 ho3 _
      rw [HL.out] at ho3
      go_wp2_with fail
      go_roundw
      case rel => exact ⟨5,by omega,rfl,hE3,ho3⟩
      case measure => simp [intOf]
     ·have hb5 : (((padTo.be8 n0).getD 5 0).toNat : Int) = ((8 * n0 / 65536 : Nat) : Int) % 256:=by
       show ((UInt8.ofNat (8 * n0 / 65536)).toNat : Int) = _
       rw [u8_of]
      generalize (padTo.be8 n0).getD 5 0 = x at *
      have HB:=qh hb5
      clear hb5
      go_wp2_with (at_builtin; refine append_byte hE1 ho1 _ x ?hb5 hol rfl _ _ rfl rfl rfl ?_)
      case hb5 => rw [HB.out]; omega
      intro v3 w3 hE3 ho3 _
      rw [HL.out] at ho3
      go_wp2_with fail
      go_roundw
      case rel => exact ⟨6,by omega,rfl,hE3,ho3⟩
      case measure => simp [intOf]
     ·have hb6 : (((padTo.be8 n0).getD 6 0).toNat : Int) = ((8 * n0 / 256 : Nat) : Int) % 256:=by
       show ((UInt8.ofNat (8 * n0 / 256)).toNat : Int) = _
       rw [u8_of]
      generalize (padTo.be8 n0).getD 6 0 = x at *
      have HB:=qh hb6
      clear hb6
      go_wp2_with (at_builtin; refine append_byte hE1 ho1 _ x ?hb6 hol rfl _ _ rfl rfl rfl ?_)
      case hb6 => rw [HB.out]; omega
      intro v3 w3 hE3 ho3 _
      rw [HL.out] at ho3
      go_wp2_with fail
      go_roundw
      case rel => exact ⟨7,by omega,rfl,hE3,ho3⟩
      case measure => simp [intOf]
     ·have hb7 : (((padTo.be8 n0).getD 7 0).toNat : Int) = ((8 * n0 / 1 : Nat) : Int) % 256:=by
       show ((UInt8.ofNat (8 * n0)).toNat : Int) = _
       rw [u8_of]; simp
      generalize (padTo.be8 n0).getD 7 0 = x at *
      have HB:=qh hb7
      clear hb7
      go_wp2_with (at_builtin; refine append_byte hE1 ho1 _ x ?hb7 hol rfl _ _ rfl rfl rfl ?_)
      case hb7 => rw [HB.out]; omega
      intro v3 w3 hE3 ho3 _
      rw [HL.out] at ho3
      go_wp2_with fail
      go_roundw
      case rel => exact ⟨8,by omega,rfl,hE3,ho3⟩
      case measure => simp [intOf]
    ·obtain rfl : j = 8:=by omega
     go_wp2_with fail
     go_meet
     exact ⟨hE1,by rw [padTo_eq hd n0 Z (by rw [<- HX.out]; exact HZ.out.2.2)]; exact ho1⟩
  case rest =>
   obtain ⟨hE,ho⟩:=hcut
   have hsha:=HSH.out
   clear hpl c73 HC hxm HZ hZ3
   have hml:=padTo_length hd n0
   have hmp:=padTo_pos hd n0
   generalize padTo hd n0 = m at *
   obtain ⟨hm1,hm2⟩:=hml
   obtain ⟨Q,hQ⟩:=qnm (m.length / 64)
   rw [<- hQ] at hm1 hsha
   have hQ2 : Q <= 3:=by rw [<- HX.out] at hm2; omega
   have HSHA:=qh hsha
   obtain ⟨am,cm,rfl,hBm⟩:=ho.bsn hm1
   obtain ⟨ge,rfl,hgeH,hgew⟩ : ∃ gm,am = some ⟨gm,0,none⟩ /\ H <= gm /\ gm < wc.heap.size:=by
    rcases ho.parts with ⟨h1,h2⟩ | ⟨g,c,h1,h2,h3⟩
    ·rw [h2] at hmp; simp at hmp
    ·injection h1 with h1; exact ⟨g,h1,h2,h3.lt⟩
   have hmc:=hBm.2.1
   have hcm:=hBm.2.2.1
   unfold maxLen at hcm
   clear hQ hm2 hsha ho hmp
   have HSx:=HS.out
   generalize hashed xs = s at *
   have hg:=fun j (hj : j < 8) => (hE.1.cell (p:=⟨p,[].length + j,none⟩) hpH).trans (SB.cell HSx j hj)
   have g0:=hg 0 (by omega); have g1:=hg 1 (by omega); have g2:=hg 2 (by omega); have g3:=hg 3 (by omega)
   have g4:=hg 4 (by omega); have g5:=hg 5 (by omega); have g6:=hg 6 (by omega); have g7:=hg 7 (by omega)
   simp only [S8.list,List.getElem_cons_zero,List.getElem_cons_succ,List.length_nil,Nat.zero_add] at g0 g1 g2 g3 g4 g5 g6 g7
   have hKK:=fun i (hi : i < 64) => Sb.cK HSx (S8.list_length _) i hi
   have HKK:=qh hKK
   have hE2:=hE.alloc (.cells #[.int .u32 (wd s.a),.int .u32 (wd s.b),.int .u32 (wd s.c),.int .u32 (wd s.d),.int .u32 (wd s.e),.int .u32 (wd s.f),.int .u32 (wd s.g),.int .u32 (wd s.h)] 342)
   have hB2:=hBm.alloc (.cells #[.int .u32 (wd s.a),.int .u32 (wd s.b),.int .u32 (wd s.c),.int .u32 (wd s.d),.int .u32 (wd s.e),.int .u32 (wd s.f),.int .u32 (wd s.g),.int .u32 (wd s.h)] 342)
   have hG2 : SB (wc.alloc (.cells #[.int .u32 (wd s.a),.int .u32 (wd s.b),.int .u32 (wd s.c),.int .u32 (wd s.d),.int .u32 (wd s.e),.int .u32 (wd s.f),.int .u32 (wd s.g),.int .u32 (wd s.h)] 342)) wc.heap.size T8 [] s.list []:=heap_alloc_new wc _
   obtain ⟨gh,hgh⟩:=qnm wc.heap.size
   have hHgh : H <= gh:=by rw [hgh]; exact hE.2
   rw [<- hgh] at hG2 hgew
   have HGH:=qh hgh
   clear hgh hKK hg HSx hE hBm
   go_upto_block 4 with fail
   clear g0 g1 g2 g3 g4 g5 g6 g7
   rw [<- HGH.out]
   generalize wc.alloc (.cells #[.int .u32 (wd s.a),.int .u32 (wd s.b),.int .u32 (wd s.c),.int .u32 (wd s.d),.int .u32 (wd s.e),.int .u32 (wd s.f),.int .u32 (wd s.g),.int .u32 (wd s.h)] 342) = w4 at *
   go_cut [6] (fun pp wr => pp = .pointer (some ⟨gh,0,none⟩) /\ SB wr gh T8 [] (blocks Q s m).list [] /\ Ext H w wr)
   case first =>
    go_wp2_with fail
    go_loopw [3] (fun v wr => ∃ q o L C,q <= Q /\ v = .slice (some ⟨ge,o,none⟩) L C /\ Hid (L = 64 * (Q - q)) /\ Bs wr (some ⟨ge,o,none⟩) L C (m.drop (64 * q)) /\ SB wr gh T8 [] (blocks q s m).list [] /\ Ext H w wr) (fun v _ => lenOfS v)
    case atStart => exact ⟨0,0,_,_,by omega,rfl,qh (by omega),hB2,hG2,hE2⟩
    case round =>
     obtain ⟨q,o,L,C,hq,rfl,HL,hB,hG,hE⟩:=hrel
     clear hB2 hG2 hE2
     by_cases hlt : q < Q
     ·have hL64 : 64 <= L:=by have:=HL.out; omega
      have hLC:=hB.2.1
      have hCm:=hB.2.2.1
      unfold maxLen at hCm
      have c1 : (64 : Int) <= (L : Int):=by omega
      have c2 : (64 : Int) <= (C : Int):=by omega
      have hBt:=hB.take (k:=64) hL64
      obtain ⟨o2,hoi,hYo⟩ : ∃ o2,(if C = 64 then (some ⟨ge,o,none⟩ : Option Addr) else some ⟨ge,o + 64,none⟩) = some ⟨ge,o2,none⟩ /\ ∀ W,Chg (fun i => i = gh) wr W -> Bs W (some ⟨ge,o2,none⟩) (L - 64) (C - 64) ((m.drop (64 * q)).drop 64):=by
       by_cases hcD : C = 64
       ·exact ⟨o,by rw [if_pos hcD],fun W hC => (hB.none_left _ (by omega) (by omega)).chg hC (fun h => by omega)⟩
       ·exact ⟨o + 64,by rw [if_neg hcD],fun W hC => (hB.off hL64).chg hC (fun _ ad had e => by cases had; exact absurd e (by show ¬ ge = gh; omega))⟩
      have HYO:=qh hYo
      have HT:=qh (fun W (hb : Below wr.heap.size wr W) => turn_any gh T8 [] [] (blocks q s m) p 8 ge o 64 C ((m.drop (64 * q)).take 64) W (SB.below hG hb) (fun i hi => ((hE.step hb).1.cell (p:=⟨p,8 + i,none⟩) hpH).trans (HKK.out i hi)) (hBt.below hb) (Nat.le_refl _))
      clear hYo hBt hB
      go_upto_region 12 with fail
      refine wp_tailb 5 (by kernel_rfl) (by kernel_rfl) rfl ?_
      simp only [List.take_succ_cons,List.take_zero,List.drop_succ_cons,List.drop_zero,List.map_cons,List.map_nil,bare]
      repeat still_step
      refine wpStill_nil ?_
      go_wp2_with fail
      refine (HT.out _ (Below.refl _ _).drew).mono ?_
      rintro e w5 ⟨rfl,hS5,hC5⟩
      rw [comp_take] at hS5
      have hC6:=(Chg.refl (fun i => i = gh) wr).drew.trans hC5 (fun _ _ h => h)
      have hB5:=HYO.out _ hC6
      have hE5:=hE.upto (hC6.below hE.2 (fun k _ e => by rw [e]; exact hHgh))
      have hbl : blocks (q + 1) s m = comp (blocks q s m) (m.drop (64 * q)):=by rw [blocks_add,blocks_one]
      rw [<- hbl] at hS5
      rw [List.drop_drop] at hB5
      have hq1 : q + 1 <= Q:=hlt
      clear hbl HT HYO hC5 hC6 hE hG hLC hCm hlt hq
      go_wp2_with fail
      go_roundw
      case rel => exact ⟨q + 1,o2,L - 64,C - 64,hq1,rfl,qh (by have:=HL.out; omega),hB5,hS5,hE5⟩
      case measure => simp [lenOfS]; omega
     ·obtain rfl : q = Q:=by omega
      have hL0 : L = 0:=by have:=HL.out; omega
      subst hL0
      go_wp2_with fail
      go_meet
      exact ⟨rfl,hG,hE⟩
   case rest =>
    obtain ⟨rfl,hG,hE⟩:=hcut
    clear hB2 hG2 hE2
    have hsh:=HSHA.out
    generalize blocks Q s m = u at *
    have g0:=SB.at00 hG 0 u.a rfl; have g1:=SB.at00 hG 1 u.b rfl; have g2:=SB.at00 hG 2 u.c rfl; have g3:=SB.at00 hG 3 u.d rfl
    have g4:=SB.at00 hG 4 u.e rfl; have g5:=SB.at00 hG 5 u.f rfl; have g6:=SB.at00 hG 6 u.g rfl; have g7:=SB.at00 hG 7 u.h rfl
    have hghw:=SB.lt hG
    have HSHA:=qh hsh
    clear hG hsh hS HS HSH HKK HGH hgew
    have hmk : ∀ W : World,(Instr.makeSlice 30 (.int .i64 0) (.int .i64 32)).run Tryz.prog W = .ok (.slice (some ⟨W.heap.size,0,none⟩) 0 32) (W.alloc (.cells (madeCells #[.int .u8 0] 32) TB)):=fun W => by kernel_rfl
    have hE2:=hE.alloc (.cells (madeCells #[.int .u8 0] 32) TB)
    have hO2 : Own (wc.alloc (.cells (madeCells #[.int .u8 0] 32) TB)) H (.slice (some ⟨wc.heap.size,0,none⟩) 0 32) [] :=
     Own.of_row (xs:=[]) (Row.made wc _ 0 32 [] (by simp [madeCells]) rfl (by omega) (by simp [maxLen]) rfl) hE.2
    go_upto_block 6 with fail
    clear hmk g0 g1 g2 g3 g4 g5 g6 g7 hghw hE
    generalize wc.alloc (.cells (madeCells #[.int .u8 0] 32) TB) = w6 at *
    go_wp2_with fail
    go_loopw [7,59] (fun v i wr => ∃ k : Nat,k <= 8 /\ i = .int .i64 k /\ Ext H w wr /\ Own wr H v (u.list.map wbytes |>.take k).flatten) (fun _ i _ => 8 - (intOf i).toNat)
    case atStart => exact ⟨0,by omega,rfl,hE2,hO2⟩
    case round =>
     obtain ⟨k,hk,rfl,hE3,hO3⟩:=hrel
     clear hE2 hO2
     by_cases hlt : k < 8
     ·rcases (show k = 0 ∨ k = 1 ∨ k = 2 ∨ k = 3 ∨ k = 4 ∨ k = 5 ∨ k = 6 ∨ k = 7 by omega) with rfl | rfl | rfl | rfl | rfl | rfl | rfl | rfl
      ·have x0 : ∀ w,(Instr.index 342 (.agg #[.int .u32 (wd u.a),.int .u32 (wd u.b),.int .u32 (wd u.c),.int .u32 (wd u.d),.int .u32 (wd u.e),.int .u32 (wd u.f),.int .u32 (wd u.g),.int .u32 (wd u.h)]) (.int .i64 0)).run Tryz.prog w = .ok (.int .u32 (wd u.a)) w:=fun _ => by kernel_rfl
       have hol : ((u.list.map wbytes).take 0).flatten.length <= 2000000:=by show 0 <= 2000000; omega
       have hE4:=hE3
       have HL : Hid (((u.list.map wbytes).take 0).flatten ++ wbytes u.a = ((u.list.map wbytes).take 1).flatten):=qh rfl
       generalize ((u.list.map wbytes).take 0).flatten = L at *
       go_wp2_with (at_builtin; refine append_word hE3 hO3 _ _ _ _ u.a rfl rfl rfl rfl hol rfl _ _ rfl rfl rfl ?_)
       intro v7 w7 hE7 hO7 _
       rw [HL.out] at hO7
       clear hE3 hE4 hO3 x0
       go_wp2_with fail
       go_roundw
       case rel => exact ⟨1,by omega,rfl,hE7,hO7⟩
       case measure => simp [intOf]
      ·have x1 : ∀ w,(Instr.index 342 (.agg #[.int .u32 (wd u.a),.int .u32 (wd u.b),.int .u32 (wd u.c),.int .u32 (wd u.d),.int .u32 (wd u.e),.int .u32 (wd u.f),.int .u32 (wd u.g),.int .u32 (wd u.h)]) (.int .i64 1)).run Tryz.prog w = .ok (.int .u32 (wd u.b)) w:=fun _ => by kernel_rfl
       have hol : ((u.list.map wbytes).take 1).flatten.length <= 2000000:=by show 4 <= 2000000; omega
       have hE4:=hE3
       have HL : Hid (((u.list.map wbytes).take 1).flatten ++ wbytes u.b = ((u.list.map wbytes).take 2).flatten):=qh rfl
       generalize ((u.list.map wbytes).take 1).flatten = L at *
       go_wp2_with (at_builtin; refine append_word hE3 hO3 _ _ _ _ u.b rfl rfl rfl rfl hol rfl _ _ rfl rfl rfl ?_)
       intro v7 w7 hE7 hO7 _
       rw [HL.out] at hO7
       clear hE3 hE4 hO3 x1
       go_wp2_with fail
       go_roundw
       case rel => exact ⟨2,by omega,rfl,hE7,hO7⟩
       case measure => simp [intOf]
      ·have x2 : ∀ w,(Instr.index 342 (.agg #[.int .u32 (wd u.a),.int .u32 (wd u.b),.int .u32 (wd u.c),.int .u32 (wd u.d),.int .u32 (wd u.e),.int .u32 (wd u.f),.int .u32 (wd u.g),.int .u32 (wd u.h)]) (.int .i64 2)).run Tryz.prog w = .ok (.int .u32 (wd u.c)) w:=fun _ => by kernel_rfl
       have hol : ((u.list.map wbytes).take 2).flatten.length <= 2000000:=by show 8 <= 2000000; omega
       have hE4:=hE3
       have HL : Hid (((u.list.map wbytes).take 2).flatten ++ wbytes u.c = ((u.list.map wbytes).take 3).flatten):=qh rfl
       generalize ((u.list.map wbytes).take 2).flatten = L at *
       go_wp2_with (at_builtin; refine append_word hE3 hO3 _ _ _ _ u.c rfl rfl rfl rfl hol rfl _ _ rfl rfl rfl ?_)
       intro v7 w7 hE7 hO7 _
       rw [HL.out] at hO7
       clear hE3 hE4 hO3 x2
       go_wp2_with fail
       go_roundw
       case rel => exact ⟨3,by omega,rfl,hE7,hO7⟩
       case measure => simp [intOf]
      ·have x3 : ∀ w,(Instr.index 342 (.agg #[.int .u32 (wd u.a),.int .u32 (wd u.b),.int .u32 (wd u.c),.int .u32 (wd u.d),.int .u32 (wd u.e),.int .u32 (wd u.f),.int .u32 (wd u.g),.int .u32 (wd u.h)]) (.int .i64 3)).run Tryz.prog w = .ok (.int .u32 (wd u.d)) w:=fun _ => by kernel_rfl
       have hol : ((u.list.map wbytes).take 3).flatten.length <= 2000000:=by show 12 <= 2000000; omega
       have hE4:=hE3
       have HL : Hid (((u.list.map wbytes).take 3).flatten ++ wbytes u.d = ((u.list.map wbytes).take 4).flatten):=qh rfl
       generalize ((u.list.map wbytes).take 3).flatten = L at *
       go_wp2_with (at_builtin; refine append_word hE3 hO3 _ _ _ _ u.d rfl rfl rfl rfl hol rfl _ _ rfl rfl rfl ?_)
       intro v7 w7 hE7 hO7 _
       rw [HL.out] at hO7
       clear hE3 hE4 hO3 x3
       go_wp2_with fail
       go_roundw
       case rel => exact ⟨4,by omega,rfl,hE7,hO7⟩
       case measure => simp [intOf]
      ·have x4 : ∀ w,(Instr.index 342 (.agg #[.int .u32 (wd u.a),.int .u32 (wd u.b),.int .u32 (wd u.c),.int .u32 (wd u.d),.int .u32 (wd u.e),.int .u32 (wd u.f),.int .u32 (wd u.g),.int .u32 (wd u.h)]) (.int .i64 4)).run Tryz.prog w = .ok (.int .u32 (wd u.e)) w:=fun _ => by kernel_rfl
       have hol : ((u.list.map wbytes).take 4).flatten.length <= 2000000:=by show 16 <= 2000000; omega
       have hE4:=hE3
       have HL : Hid (((u.list.map wbytes).take 4).flatten ++ wbytes u.e = ((u.list.map wbytes).take 5).flatten):=qh rfl
       generalize ((u.list.map wbytes).take 4).flatten = L at *
       go_wp2_with (at_builtin; refine append_word hE3 hO3 _ _ _ _ u.e rfl rfl rfl rfl hol rfl _ _ rfl rfl rfl ?_)
       intro v7 w7 hE7 hO7 _
       rw [HL.out] at hO7
       clear hE3 hE4 hO3 x4
       go_wp2_with fail
       go_roundw
       case rel => exact ⟨5,by omega,rfl,hE7,hO7⟩
       case measure => simp [intOf]
      ·have x5 : ∀ w,(Instr.index 342 (.agg #[.int .u32 (wd u.a),.int .u32 (wd u.b),.int .u32 (wd u.c),.int .u32 (wd u.d),.int .u32 (wd u.e),.int .u32 (wd u.f),.int .u32 (wd u.g),.int .u32 (wd u.h)]) (.int .i64 5)).run Tryz.prog w = .ok (.int .u32 (wd u.f)) w:=fun _ => by kernel_rfl
       have hol : ((u.list.map wbytes).take 5).flatten.length <= 2000000:=by show 20 <= 2000000; omega
       have hE4:=hE3
       have HL : Hid (((u.list.map wbytes).take 5).flatten ++ wbytes u.f = ((u.list.map wbytes).take 6).flatten):=qh rfl
       generalize ((u.list.map wbytes).take 5).flatten = L at *
       go_wp2_with (at_builtin; refine append_word hE3 hO3 _ _ _ _ u.f rfl rfl rfl rfl hol rfl _ _ rfl rfl rfl ?_)
       intro v7 w7 hE7 hO7 _
       rw [HL.out] at hO7
       clear hE3 hE4 hO3 x5
       go_wp2_with fail
       go_roundw
       case rel => exact ⟨6,by omega,rfl,hE7,hO7⟩
       case measure => simp [intOf]
      ·have x6 : ∀ w,(Instr.index 342 (.agg #[.int .u32 (wd u.a),.int .u32 (wd u.b),.int .u32 (wd u.c),.int .u32 (wd u.d),.int .u32 (wd u.e),.int .u32 (wd u.f),.int .u32 (wd u.g),.int .u32 (wd u.h)]) (.int .i64 6)).run Tryz.prog w = .ok (.int .u32 (wd u.g)) w:=fun _ => by kernel_rfl
       have hol : ((u.list.map wbytes).take 6).flatten.length <= 2000000:=by show 24 <= 2000000; omega
       have hE4:=hE3
       have HL : Hid (((u.list.map wbytes).take 6).flatten ++ wbytes u.g = ((u.list.map wbytes).take 7).flatten):=qh rfl
       generalize ((u.list.map wbytes).take 6).flatten = L at *
       go_wp2_with (at_builtin; refine append_word hE3 hO3 _ _ _ _ u.g rfl rfl rfl rfl hol rfl _ _ rfl rfl rfl ?_)
       intro v7 w7 hE7 hO7 _
       rw [HL.out] at hO7
       clear hE3 hE4 hO3 x6
       go_wp2_with fail
       go_roundw
       case rel => exact ⟨7,by omega,rfl,hE7,hO7⟩
       case measure => simp [intOf]
      ·have x7 : ∀ w,(Instr.index 342 (.agg #[.int .u32 (wd u.a),.int .u32 (wd u.b),.int .u32 (wd u.c),.int .u32 (wd u.d),.int .u32 (wd u.e),.int .u32 (wd u.f),.int .u32 (wd u.g),.int .u32 (wd u.h)]) (.int .i64 7)).run Tryz.prog w = .ok (.int .u32 (wd u.h)) w:=fun _ => by kernel_rfl
       have hol : ((u.list.map wbytes).take 7).flatten.length <= 2000000:=by show 28 <= 2000000; omega
       have hE4:=hE3
       have HL : Hid (((u.list.map wbytes).take 7).flatten ++ wbytes u.h = ((u.list.map wbytes).take 8).flatten):=qh rfl
       generalize ((u.list.map wbytes).take 7).flatten = L at *
       go_wp2_with (at_builtin; refine append_word hE3 hO3 _ _ _ _ u.h rfl rfl rfl rfl hol rfl _ _ rfl rfl rfl ?_)
       intro v7 w7 hE7 hO7 _
       rw [HL.out] at hO7
       clear hE3 hE4 hO3 x7
       go_wp2_with fail
       go_roundw
       case rel => exact ⟨8,by omega,rfl,hE7,hO7⟩
       case measure => simp [intOf]
     ·obtain rfl : k = 8:=by omega
      rw [show ((u.list.map wbytes).take 8).flatten = u.bytes from rfl,<- HSHA.out] at hO3
      go_wp2_with fail
      go_ret
      exact ⟨_,rfl,hO3,hE3.1⟩
theorem Own.weaken {w : World} {B B' : Nat} {v : Value} {xs : List UInt8} (h : Own w B' v xs) (hB : B <= B') : Own w B v xs:=by
 rcases h.parts with ⟨rfl,rfl⟩ | ⟨g,cap,rfl,h2,h3⟩
 ·exact Own.nil _ _
 ·exact Own.of_row h3 (Nat.le_trans hB h2)
structure Pc where
 a : Option Addr
 m : Nat
 c : Nat
 ys : List UInt8
def pcat (ps : List Pc) : List UInt8:=(ps.map (·.ys)).flatten
theorem pcat_succ (ps : List Pc) (k : Nat) (h : k < ps.length) : pcat (ps.take (k + 1)) = pcat (ps.take k) ++ ps[k].ys:=by
 unfold pcat; rw [List.take_succ_eq_append_getElem h,List.map_append,List.flatten_append]; congr 1; simp
theorem pcat_le (ps : List Pc) (k : Nat) : (pcat (ps.take k)).length <= (pcat ps).length:=by
 conv => rhs; rw [<- List.take_append_drop k ps]
 unfold pcat
 rw [List.map_append,List.flatten_append,List.length_append]; omega
theorem shaof_any (gb n cap : Nat) (ps : List Pc) (w : World) (hn : ps.length = n) (hn1 : n <= 100) (hgb : gb < w.heap.size)
  (hc : ∀ i (h : i < ps.length),w.cell? ⟨gb,i,none⟩ = some (.slice ps[i].a ps[i].m ps[i].c)) (hB : ∀ i (h : i < ps.length),Bs w ps[i].a ps[i].m ps[i].c ps[i].ys) (hl : (pcat ps).length <= 1000000) :
  Calls Tryz.prog 173 #[.slice (some ⟨gb,0,none⟩) n cap] w fun e w' => ∃ v,e = .returned v /\ Own w' w.heap.size v (sha (pcat ps)) /\ Below w.heap.size w w':=by
 obtain ⟨H,hH⟩:=qnm w.heap.size
 rw [<- hH] at hgb ⊢
 have HH:=qh hH
 have HC:=qh hc
 have HB:=qh hB
 have HN:=qh hn
 clear hc hB hn hH
 go_enter Tryz.func173,Tryz.ntmps173
 go_wp2_with fail
 refine (shanew_any w).mono ?_
 rintro e w1 ⟨p,rfl,hS1,hb1⟩
 rw [<- HH.out] at hS1
 have hE1 : Ext H w w1:=by rw [HH.out]; exact (Ext.refl w).step hb1
 clear hb1
 go_upto_block 0 with fail
 go_cut [3] (fun s wr => s = .pointer (some ⟨p,0,none⟩) /\ Ext H w wr /\ ∃ g,Strm wr H p g (pcat ps))
 case first =>
  go_wp2_with fail
  go_loopw [9] (fun i wr => ∃ k : Nat,k <= n /\ i = .int .i64 k /\ Ext H w wr /\ ∃ g,Strm wr H p g (pcat (ps.take k))) (fun i _ => n - (intOf i).toNat)
  case atStart => exact ⟨0,by omega,rfl,hE1,none,hS1⟩
  case round =>
   obtain ⟨k,hk,rfl,hE,g,hS⟩:=hrel
   clear hS1 hE1
   by_cases hlt : k < n
   ·have hkl : k < ps.length:=by rw [HN.out]; exact hlt
    have hck:=(hE.1.cell (p:=⟨gb,k,none⟩) hgb).trans (HC.out k hkl)
    have hBk:=(HB.out k hkl).below (by rw [<- HH.out]; exact hE.1)
    have hle:=pcat_le ps (k + 1)
    rw [pcat_succ ps k hkl] at hle
    have hsu:=pcat_succ ps k hkl
    have hna : 0 < ps[k].m -> ∀ ad,ps[k].a = some ad -> ¬ SS p g ad.block:=by
     intro h0 ad had hs
     have hb0:=HB.out k hkl
     rcases hb0.2.2.2 with h | ⟨b,o,e,h5,_⟩
     ·omega
     ·rw [e] at had; injection had with had; subst had
      rcases hs with hs | hs
      ·have:=hS.1; have:=HH.out; simp at hs; omega
      ·subst hs; have h9 : H <= b:=hS.row_lt.2; have:=HH.out; omega
    have HW:=qh (shawrite_any H p g (pcat (ps.take k)) ps[k].a ps[k].m ps[k].c ps[k].ys wr hS hBk hna (by rw [List.length_append] at hle; have:=hBk.1; omega))
    rw [<- hsu] at HW
    have hto:=fun w' (hc : Chg (SS p g) wr w') => hE.upto (hS.belowOf hc)
    have HTO:=qh hto
    clear hle hsu hna hBk hS hto hE
    generalize ps[k] = q at *
    have e1 : (0 : Int) <= (k : Int):=by omega
    have e2 : (k : Int) < (n : Int):=by omega
    go_wp2_with fail
    refine HW.out.mono ?_
    rintro e w2 ⟨rfl,g2,hS2,hC2,_⟩
    have hE2:=HTO.out _ hC2
    clear HW HTO hC2 hck
    go_wp2_with fail
    go_roundw
    case rel => exact ⟨k + 1,by omega,by go_num,hE2,g2,hS2⟩
    case measure => simp [intOf]; omega
   ·obtain rfl : k = n:=by omega
    have htk : ps.take k = ps:=List.take_of_length_le (by rw [HN.out]; omega)
    rw [htk] at hS
    go_wp2_with fail
    go_meet
    exact ⟨rfl,hE,g,hS⟩
 case rest =>
  obtain ⟨rfl,hE,g,hS⟩:=hcut
  clear hS1 hE1
  go_wp2_with fail
  refine (shasum_st H p g (pcat ps) _ hS hl).mono ?_
  rintro e w3 ⟨v,rfl,hO,hb⟩
  have hE3:=hE.step hb
  have hO3:=hO.weaken hE.2
  clear hO hE hS
  go_wp2_with fail
  go_ret
  exact ⟨_,rfl,hO3,hE3.1⟩
theorem shasum_any (a : Option Addr) (len cap : Nat) (xs : List UInt8) (w : World) (h : Bs w a len cap xs) (hl : len <= 1000000) :
  Calls Tryz.prog 98 #[.slice a len cap] w fun e w' => ∃ v,e = .returned v /\ Own w' w.heap.size v (sha xs) /\ Below w.heap.size w w':=by
 have hO:=shaof_any w.heap.size 1 1 [⟨a,len,cap,xs⟩] (w.alloc (.cells #[.slice a len cap] 30)) rfl (by omega) (lt_new w _)
  (fun i hi => by match i,hi with | 0,_ => rw [World.cell?_alloc_mark]; rfl)
  (fun i hi => by match i,hi with | 0,_ => exact h.alloc _) (by show (pcat [⟨a,len,cap,xs⟩]).length <= _; simp [pcat]; have:=h.1; omega)
 rw [show pcat [⟨a,len,cap,xs⟩] = xs by simp [pcat]] at hO
 have HO:=qh hO
 clear hO
 go_enter Tryz.func98,Tryz.ntmps98
 go_wp2_with fail
 refine HO.out.mono ?_
 rintro e w1 ⟨v,rfl,ho,hb⟩
 have hE:=((Ext.refl w).alloc (.cells #[.slice a len cap] 30)).step hb
 go_wp2_with fail
 go_ret
 exact ⟨_,rfl,ho.weaken (by simp),hE.1⟩
theorem shaleaf_any (a : Option Addr) (len cap : Nat) (xs : List UInt8) (w : World) (h : Bs w a len cap xs) (hl : len <= 900000) :
  Calls Tryz.prog 198 #[.slice a len cap] w fun e w' => ∃ v,e = .returned v /\ Own w' w.heap.size v (sha (0 :: xs)) /\ Below w.heap.size w w':=by
 have h0:=Bs.one w 0
 rw [show (((0 : UInt8).toNat : Nat) : Int) = 0 from rfl] at h0
 have hO:=shaof_any (w.heap.size + 1) 2 2 [⟨some ⟨w.heap.size,0,none⟩,1,1,[0]⟩,⟨a,len,cap,xs⟩] ((w.alloc (.cells #[.int .u8 0] TB)).alloc (.cells #[.slice (some ⟨w.heap.size,0,none⟩) 1 1,.slice a len cap] 30)) rfl (by omega) (by simp)
  (fun i hi => by
   have e : w.heap.size + 1 = (w.alloc (.cells #[.int .u8 0] TB)).heap.size:=by simp
   rw [e]
   match i,hi with
   | 0,_ => rw [World.cell?_alloc_mark]; rfl
   | 1,_ => rw [World.cell?_alloc_mark]; rfl)
  (fun i hi => by
   match i,hi with
   | 0,_ => exact h0.alloc _
   | 1,_ => exact (h.alloc _).alloc _) (by simp [pcat]; have:=h.1; omega)
 rw [show pcat [⟨some ⟨w.heap.size,0,none⟩,1,1,[0]⟩,⟨a,len,cap,xs⟩] = 0 :: xs by simp [pcat]] at hO
 have HO:=qh hO
 clear hO h0
 go_enter Tryz.func198,Tryz.ntmps198
 go_wp2_with fail
 refine HO.out.mono ?_
 rintro e w1 ⟨v,rfl,ho,hb⟩
 have hE:=(((Ext.refl w).alloc (.cells #[.int .u8 0] TB)).alloc (.cells #[.slice (some ⟨w.heap.size,0,none⟩) 1 1,.slice a len cap] 30)).step hb
 go_wp2_with fail
 go_ret
 exact ⟨_,rfl,ho.weaken (by simp; omega),hE.1⟩
theorem shapair_any (a a' : Option Addr) (len cap len' cap' : Nat) (xs ys : List UInt8) (w : World) (h : Bs w a len cap xs) (h' : Bs w a' len' cap' ys) (hl : len + len' <= 900000) :
  Calls Tryz.prog 200 #[.slice a len cap,.slice a' len' cap'] w fun e w' => ∃ v,e = .returned v /\ Own w' w.heap.size v (sha (1 :: (xs ++ ys))) /\ Below w.heap.size w w':=by
 have h0:=Bs.one w 1
 rw [show (((1 : UInt8).toNat : Nat) : Int) = 1 from rfl] at h0
 have hO:=shaof_any (w.heap.size + 1) 3 3 [⟨some ⟨w.heap.size,0,none⟩,1,1,[1]⟩,⟨a,len,cap,xs⟩,⟨a',len',cap',ys⟩] ((w.alloc (.cells #[.int .u8 1] TB)).alloc (.cells #[.slice (some ⟨w.heap.size,0,none⟩) 1 1,.slice a len cap,.slice a' len' cap'] 30)) rfl (by omega) (by simp)
  (fun i hi => by
   have e : w.heap.size + 1 = (w.alloc (.cells #[.int .u8 1] TB)).heap.size:=by simp
   rw [e]
   match i,hi with
   | 0,_ => rw [World.cell?_alloc_mark]; rfl
   | 1,_ => rw [World.cell?_alloc_mark]; rfl
   | 2,_ => rw [World.cell?_alloc_mark]; rfl)
  (fun i hi => by
   match i,hi with
   | 0,_ => exact h0.alloc _
   | 1,_ => exact (h.alloc _).alloc _
   | 2,_ => exact (h'.alloc _).alloc _) (by simp [pcat]; have:=h.1; have:=h'.1; omega)
 rw [show pcat [⟨some ⟨w.heap.size,0,none⟩,1,1,[1]⟩,⟨a,len,cap,xs⟩,⟨a',len',cap',ys⟩] = 1 :: (xs ++ ys) by simp [pcat]] at hO
 have HO:=qh hO
 clear hO h0
 go_enter Tryz.func200,Tryz.ntmps200
 go_wp2_with fail
 refine HO.out.mono ?_
 rintro e w1 ⟨v,rfl,ho,hb⟩
 have hE:=(((Ext.refl w).alloc (.cells #[.int .u8 1] TB)).alloc (.cells #[.slice (some ⟨w.heap.size,0,none⟩) 1 1,.slice a len cap,.slice a' len' cap'] 30)).step hb
 go_wp2_with fail
 go_ret
 exact ⟨_,rfl,ho.weaken (by simp; omega),hE.1⟩
end
end Go.Proofs.YtabdcphioccgnaaGreatDoor
