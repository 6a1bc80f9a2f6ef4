/- PtDec. -/
import Derived.Test.YtabdcphioccgnaaGreatDoorK12
set_option maxRecDepth 100000
set_option maxHeartbeats 8000000
namespace Go.Proofs.YtabdcphioccgnaaGreatDoor
section
open Go.RowKit
theorem RI.below {w W W' : World} {p q : Nat} {rb : Option Nat} {L : List UInt8} (h : RI w p q rb W L) (hb : Below W.heap.size W W') : RI w p q rb W' L:=⟨h.1.step hb,h.2.1.below hb,h.2.2⟩
theorem rraw_ok {w W : World} {p q : Nat} {rb : Option Nat} {L : List UInt8} (ys : List UInt8) (n : Int) (h : RI w p q rb W (ys ++ L)) (hn : n = ys.length) :
  Calls Tryz.prog 147 #[.pointer (some ⟨q,0,none⟩),.int .i64 n] W fun e w' => (∃ v,e = .returned v /\ Own w' W.heap.size v ys) /\ RI w p q rb w' L:=by
 refine (rraw_any p q rb (ys ++ L) 0 n W h.2.1 h.2.2).mono ?_
 rintro e w' ⟨v,rfl,ho,hP⟩
 rw [rdRaw_app ys L n hn] at ho hP
 exact ⟨⟨v,rfl,ho⟩,rpost_ok h hP rfl (by simp)⟩
theorem or_halves (c : Nat) (hc : c < 4294967296) : bits .or .u32 ((c : Int) / 65536 * 65536) ((c : Int) % 65536) = (c : Int):=by
 have e1 : (c : Int) / 65536 * 65536 = ((c / 65536 * 65536 : Nat) : Int):=by omega
 have e2 : (c : Int) % 65536 = ((c % 65536 : Nat) : Int):=by omega
 rw [e1,e2,u32_or_nat _ _ (by omega) (by omega)]
 congr 1
 have:=Nat.two_pow_add_eq_or_of_lt (i:=16) (b:=c % 65536) (by omega) (c / 65536)
 rw [Nat.mul_comm] at this
 simp only [show (2 : Nat) ^ 16 = 65536 from rfl] at this
 rw [<- this]
 omega
theorem be_mod (c : Nat) : be c 2 = be (c % 65536) 2:=by
 have:=pt_be_low (c / 65536) (c % 65536) 2
 rw [show c / 65536 * 256 ^ 2 + c % 65536 = c by omega] at this
 exact this
def PtPost (why : Nat) (m : Mk) (B : Nat) (e : Ending) (w' : World) : Prop :=
 ∃ ah lh ch al lt ct,e = .returned (.tuple #[.agg #[.int .u64 (m.gen : Int),.int .u64 (m.seq : Int),.int .i64 m.seg,.slice ah lh ch,.slice al lt ct],.int .i64 (why : Int)]) /\ Own w' B (.slice ah lh ch) m.head /\ Own w' B (.slice al lt ct) m.state
theorem PtPost.zero (why : Nat) (B : Nat) (w' : World) : PtPost why Mk.zero B (.returned (.tuple #[.agg #[.int .u64 0,.int .u64 0,.int .i64 0,.slice none 0 0,.slice none 0 0],.int .i64 (why : Int)])) w' :=
 ⟨none,0,0,none,0,0,rfl,Own.nil _ _,Own.nil _ _⟩
theorem below5 {B : Nat} {a w : World} {b : Nat} (h : Below B a w) (hb : B <= b) (v0 v1 v2 v3 v4 : Value) : Below B a (((((w.setCell ⟨b,0,none⟩ v0).setCell ⟨b,1,none⟩ v1).setCell ⟨b,2,none⟩ v2).setCell ⟨b,3,none⟩ v3).setCell ⟨b,4,none⟩ v4) :=
 ((((h.setCell (p:=⟨b,0,none⟩) hb _).setCell (p:=⟨b,1,none⟩) hb _).setCell (p:=⟨b,2,none⟩) hb _).setCell (p:=⟨b,3,none⟩) hb _).setCell (p:=⟨b,4,none⟩) hb _
theorem Own.store5 {w : World} {B : Nat} {v : Value} {xs : List UInt8} (h : Own w B v xs) {b : Nat} (hb : ∀ k,v.ownBlock = some k -> k ≠ b) (v0 v1 v2 v3 v4 : Value) : Own (((((w.setCell ⟨b,0,none⟩ v0).setCell ⟨b,1,none⟩ v1).setCell ⟨b,2,none⟩ v2).setCell ⟨b,3,none⟩ v3).setCell ⟨b,4,none⟩ v4) B v xs :=
 ((((h.setOther (p:=⟨b,0,none⟩) hb _).setOther (p:=⟨b,1,none⟩) hb _).setOther (p:=⟨b,2,none⟩) hb _).setOther (p:=⟨b,3,none⟩) hb _).setOther (p:=⟨b,4,none⟩) hb _
theorem beq_any (a1 a2 : Option Addr) (l1 l2 c1 c2 : Nat) (xs ys : List UInt8) (w : World) (h1 : Bs w a1 l1 c1 xs) (h2 : Bs w a2 l2 c2 ys) :
  Calls Tryz.prog 148 #[.slice a1 l1 c1,.slice a2 l2 c2] w fun e w' => e = .returned (.bool (decide (xs = ys))) /\ w = w':=by
 have s1:=run_string h1
 have s2:=run_string h2
 have hd : ((strOf xs).toList == (strOf ys).toList) = decide (xs = ys):=by
  rw [strOf_toList,strOf_toList,Bool.eq_iff_iff]; simp
 go_enter Tryz.func148,Tryz.ntmps148
 go_wp2
 go_ret
 exact ⟨rfl,rfl⟩
theorem pdec_arg (s p g : Int) (a : Option Addr) (len cap : Nat) (w : World) (h : ¬ isPlan s p g ∨ (len : Int) ≠ 128 * p) :
  Calls Tryz.prog 208 #[.agg #[.int .i64 s,.int .i64 p,.int .i64 g],.slice a len cap] w fun e w' => PtPost 1 Mk.zero w.heap.size e w' /\ Below w.heap.size w w':=by
 obtain ⟨H,hH⟩:=qnm w.heap.size
 have hE:=((Ext.refl w).alloc (.cells #[.int .i64 s,.int .i64 p,.int .i64 g] 56)).alloc (.cells #[.int .u64 0,.int .u64 0,.int .i64 0,.slice none 0 0,.slice none 0 0] 91)
 have hP:=(Below.heap_alloc (w.alloc (.cells #[.int .i64 s,.int .i64 p,.int .i64 g] 56)) (.cells #[.int .u64 0,.int .u64 0,.int .i64 0,.slice none 0 0,.slice none 0 0] 91) w.heap.size (by simp)).trans (heap_alloc_new w (.cells #[.int .i64 s,.int .i64 p,.int .i64 g] 56))
 have hZ:=heap_alloc_new (w.alloc (.cells #[.int .i64 s,.int .i64 p,.int .i64 g] 56)) (.cells #[.int .u64 0,.int .u64 0,.int .i64 0,.slice none 0 0,.slice none 0 0] 91)
 have hB:=trivial
 rw [World.size_alloc] at hZ
 rw [<- hH] at hE hP hZ ⊢
 have HH:=qh hH
 clear hH
 have HW:=qh (aI hE (aI hP (aI hZ hB)))
 clear hE hP hZ hB
 by_cases hp : isPlan s p g
 ·have hlen : (len : Int) ≠ 128 * p:=h.resolve_left (fun h' => h' hp)
  have HR:=qh (fun w => right_ok s p g w hp)
  have hbd:=hp.bd
  have i1 : IntKind.i64.wrap (128 * p) = 128 * p:=IntWalk.i64_in _ (by omega)
  have hne : ((len : Int) != 128 * p) = true:=by rw [bne_iff_ne]; exact hlen
  clear h hp hlen hbd
  go_enter Tryz.func208,Tryz.ntmps208
  go_wp2_with fail
  rw [<- HH.out]
  obtain ⟨hE,hP,hZ,hB⟩:=HW.out
  clear HW
  generalize (w.alloc (.cells #[.int .i64 s,.int .i64 p,.int .i64 g] 56)).alloc (.cells #[.int .u64 0,.int .u64 0,.int .i64 0,.slice none 0 0,.slice none 0 0] 91) = w0 at *
  refine (HR.out _).mono ?_
  rintro e w1 ⟨rfl,hb⟩
  replace hE:=hE.step hb
  replace hP:=(hb.block H (lt_of_heap hP)).trans hP
  replace hZ:=(hb.block (H + 1) (lt_of_heap hZ)).trans hZ
  clear hb HR
  have p0:=cells_at hP 0
  have p1:=cells_at hP 1
  have p2:=cells_at hP 2
  simp only [List.getElem?_toArray,List.getElem?_cons_zero,List.getElem?_cons_succ] at p0 p1 p2
  have hz:=lt_of_heap hZ
  have z0:=cells_at hZ 0
  have z1:=cells_at hZ 1
  have z2:=cells_at hZ 2
  have z3:=cells_at hZ 3
  have z4:=cells_at hZ 4
  have f0:=frozen_at hZ 0
  have f1:=frozen_at hZ 1
  have f2:=frozen_at hZ 2
  have f3:=frozen_at hZ 3
  have f4:=frozen_at hZ 4
  simp only [List.getElem?_toArray,List.getElem?_cons_zero,List.getElem?_cons_succ] at z0 z1 z2 z3 z4
  go_wp2_with fail
  refine bodyPost_ret (v:=.tuple #[.agg #[.int .u64 0,.int .u64 0,.int .i64 0,.slice none 0 0,.slice none 0 0],.int .i64 1]) (by simp [results,Tryz.results208,go_sem,z0,z1,z2,z3,z4]) rfl ⟨PtPost.zero 1 _ _,below5 hE.1 (Nat.le_succ _) _ _ _ _ _⟩
 ·have HR:=qh (fun w => right_no s p g w hp)
  clear h hp
  go_enter Tryz.func208,Tryz.ntmps208
  go_wp2_with fail
  rw [<- HH.out]
  obtain ⟨hE,hP,hZ,hB⟩:=HW.out
  clear HW
  generalize (w.alloc (.cells #[.int .i64 s,.int .i64 p,.int .i64 g] 56)).alloc (.cells #[.int .u64 0,.int .u64 0,.int .i64 0,.slice none 0 0,.slice none 0 0] 91) = w0 at *
  refine (HR.out _).mono ?_
  rintro e w1 ⟨rfl,hb⟩
  replace hE:=hE.step hb
  replace hP:=(hb.block H (lt_of_heap hP)).trans hP
  replace hZ:=(hb.block (H + 1) (lt_of_heap hZ)).trans hZ
  clear hb HR
  have hz:=lt_of_heap hZ
  have z0:=cells_at hZ 0
  have z1:=cells_at hZ 1
  have z2:=cells_at hZ 2
  have z3:=cells_at hZ 3
  have z4:=cells_at hZ 4
  have f0:=frozen_at hZ 0
  have f1:=frozen_at hZ 1
  have f2:=frozen_at hZ 2
  have f3:=frozen_at hZ 3
  have f4:=frozen_at hZ 4
  simp only [List.getElem?_toArray,List.getElem?_cons_zero,List.getElem?_cons_succ] at z0 z1 z2 z3 z4
  go_wp2_with fail
  refine bodyPost_ret (v:=.tuple #[.agg #[.int .u64 0,.int .u64 0,.int .i64 0,.slice none 0 0,.slice none 0 0],.int .i64 1]) (by simp [results,Tryz.results208,go_sem,z0,z1,z2,z3,z4]) rfl ⟨PtPost.zero 1 _ _,below5 hE.1 (Nat.le_succ _) _ _ _ _ _⟩
structure DI (w1 : World) (q0 q M B1 : Nat) (rb : Option Nat) (ah : Option Addr) (ch : Nat) (HD : List UInt8) (C : Array Value) (L : List UInt8) (wx : World) : Prop where
 ri : RI w1 q0 q rb wx L
 m : wx.heap[M]? = some (.cells C 91 (0,0))
 oh : Own wx B1 (.slice ah 32 ch) HD
 qM : q ≠ M
 qB : q < B1
 hM : ∀ k,(Value.slice ah 32 ch).ownBlock = some k -> k ≠ M
variable {w1 : World} {q0 q M B1 : Nat} {rb : Option Nat} {ah : Option Addr} {ch : Nat} {HD : List UInt8} {C : Array Value} {L : List UInt8} {wx : World}
theorem DI.next (h : DI w1 q0 q M B1 rb ah ch HD C L wx) {L' : List UInt8} {w' : World} (hP : RPost wx q0 q rb (L',0) w') (hl : L'.length <= L.length) : DI w1 q0 q M B1 rb ah ch HD C L' w' where
 ri:=rpost_ok h.ri hP rfl hl
 m:=(hP.2.block M (lt_of_heap h.m) (fun e => h.qM e.symm)).trans h.m
 oh:=hP.2.own h.oh (fun k hk e => by have:=h.oh.blk k hk; have:=h.qB; omega)
 qM:=h.qM
 qB:=h.qB
 hM:=h.hM
theorem DI.below (h : DI w1 q0 q M B1 rb ah ch HD C L wx) {w' : World} (hb : Below wx.heap.size wx w') : DI w1 q0 q M B1 rb ah ch HD C L w' where
 ri:=h.ri.below hb
 m:=(hb.block M (lt_of_heap h.m)).trans h.m
 oh:=h.oh.below hb
 qM:=h.qM
 qB:=h.qB
 hM:=h.hM
theorem dlong_ok (n : Nat) (h : DI w1 q0 q M B1 rb ah ch HD C (be n 8 ++ L) wx) (hn : n < 18446744073709551616) :
  Calls Tryz.prog 146 #[.pointer (some ⟨q,0,none⟩)] wx fun e w' => e = .returned (.int .u64 (n : Int)) /\ DI w1 q0 q M B1 rb ah ch HD C L w':=by
 refine (rlong_any q0 q rb (be n 8 ++ L,0) wx h.ri.2.1 h.ri.2.2).mono ?_
 rintro e w' ⟨rfl,hP⟩
 rw [rdLong_be n L hn] at hP ⊢
 exact ⟨rfl,h.next hP (by simp)⟩
theorem dshort_ok (n : Nat) (h : DI w1 q0 q M B1 rb ah ch HD C (be n 2 ++ L) wx) (hn : n < 65536) :
  Calls Tryz.prog 145 #[.pointer (some ⟨q,0,none⟩)] wx fun e w' => e = .returned (.int .i64 (n : Int)) /\ DI w1 q0 q M B1 rb ah ch HD C L w':=by
 refine (rshort_any q0 q rb (be n 2 ++ L,0) wx h.ri.2.1 h.ri.2.2).mono ?_
 rintro e w' ⟨rfl,hP⟩
 rw [rdShort_be n L,Nat.mod_eq_of_lt hn] at hP ⊢
 exact ⟨rfl,h.next hP (by simp)⟩
theorem draw_ok (ys : List UInt8) (n : Int) (h : DI w1 q0 q M B1 rb ah ch HD C (ys ++ L) wx) (hn : n = ys.length) :
  Calls Tryz.prog 147 #[.pointer (some ⟨q,0,none⟩),.int .i64 n] wx fun e w' => (∃ v,e = .returned v /\ Own w' wx.heap.size v ys) /\ DI w1 q0 q M B1 rb ah ch HD C L w' /\ Chg (fun k => k = q) wx w':=by
 refine (rraw_any q0 q rb (ys ++ L) 0 n wx h.ri.2.1 h.ri.2.2).mono ?_
 rintro e w' ⟨v,rfl,ho,hP⟩
 rw [rdRaw_app ys L n hn] at ho hP
 exact ⟨⟨v,rfl,ho⟩,h.next hP (by simp),hP.2⟩
theorem Own.ltp {w : World} {B : Nat} {v : Value} {xs : List UInt8} (h : Own w B v xs) : ∀ k,v.ownBlock = some k -> k < w.heap.size:=by
 intro k hk
 rcases h.parts with ⟨rfl,rfl⟩ | ⟨g,cap,rfl,hB,hr⟩
 ·cases hk
 ·have : g = k:=by injection hk
  rw [<- this]; exact hr.lt
def PtIn (G Q S : Nat) (H : List UInt8) (N c : Nat) (h : List UInt8) : Prop:=G < 18446744073709551616 /\ Q < 18446744073709551616 /\ S < 65536 /\ H.length = 32 /\ N < 18446744073709551616 /\ c < 4294967296 /\ h.length = 32
theorem pdec_ok (s p g : Int) (a : Option Addr) (len cap : Nat) (w : World) (G Q S N c : Nat) (HD h rest : List UInt8) (hp : isPlan s p g) (hB : Bs w a len cap (ptImg G Q S HD N c h rest)) (hlen : (len : Int) = 128 * p) (hin : PtIn G Q S HD N c h) :
  Calls Tryz.prog 208 #[.agg #[.int .i64 s,.int .i64 p,.int .i64 g],.slice a len cap] w fun e w' => PtPost (ptWhy p g G Q S HD N c h rest) (ptMk (ptWhy p g G Q S HD N c h rest) G Q S HD N rest) w.heap.size e w' /\ Below w.heap.size w w':=by
 obtain ⟨H,hH⟩:=qnm w.heap.size
 have hE:=((Ext.refl w).alloc (.cells #[.int .i64 s,.int .i64 p,.int .i64 g] 56)).alloc (.cells #[.int .u64 0,.int .u64 0,.int .i64 0,.slice none 0 0,.slice none 0 0] 91)
 have hP:=(Below.heap_alloc (w.alloc (.cells #[.int .i64 s,.int .i64 p,.int .i64 g] 56)) (.cells #[.int .u64 0,.int .u64 0,.int .i64 0,.slice none 0 0,.slice none 0 0] 91) w.heap.size (by simp)).trans (heap_alloc_new w (.cells #[.int .i64 s,.int .i64 p,.int .i64 g] 56))
 have hZ:=heap_alloc_new (w.alloc (.cells #[.int .i64 s,.int .i64 p,.int .i64 g] 56)) (.cells #[.int .u64 0,.int .u64 0,.int .i64 0,.slice none 0 0,.slice none 0 0] 91)
 replace hB:=(hB.alloc (.cells #[.int .i64 s,.int .i64 p,.int .i64 g] 56)).alloc (.cells #[.int .u64 0,.int .u64 0,.int .i64 0,.slice none 0 0,.slice none 0 0] 91)
 rw [World.size_alloc] at hZ
 rw [<- hH] at hE hP hZ ⊢
 have HH:=qh hH
 clear hH
 have HW:=qh (aI hE (aI hP (aI hZ hB)))
 clear hE hP hZ hB
 have HPL:=qh hp
 have HR:=qh (fun w => right_ok s p g w hp)
 have hbd:=hp.bd
 have i1 : IntKind.i64.wrap (128 * p) = 128 * p:=IntWalk.i64_in _ (by omega)
 have hne : ((len : Int) != 128 * p) = false:=by rw [bne_eq_false_iff_eq]; exact hlen
 have hle : len <= 200000:=by omega
 have HLE:=qh hlen
 have HBD:=qh hbd
 have HIN:=qh hin
 clear hp hlen hbd hin
 go_enter Tryz.func208,Tryz.ntmps208
 go_wp2_with fail
 rw [<- HH.out]
 obtain ⟨hE,hP,hZ,hB⟩:=HW.out
 clear HW
 generalize (w.alloc (.cells #[.int .i64 s,.int .i64 p,.int .i64 g] 56)).alloc (.cells #[.int .u64 0,.int .u64 0,.int .i64 0,.slice none 0 0,.slice none 0 0] 91) = w0 at *
 refine (HR.out _).mono ?_
 rintro e w1 ⟨rfl,hb⟩
 replace hE:=hE.step hb
 replace hP:=(hb.block H (lt_of_heap hP)).trans hP
 replace hZ:=(hb.block (H + 1) (lt_of_heap hZ)).trans hZ
 replace hB:=hB.below hb
 clear hb HR
 have p0:=cells_at hP 0
 have p1:=cells_at hP 1
 have p2:=cells_at hP 2
 simp only [List.getElem?_toArray,List.getElem?_cons_zero,List.getElem?_cons_succ] at p0 p1 p2
 go_wp2_with fail
 refine (rnew_lt a len cap _ w1 hB (by unfold big; omega)).mono ?_
 rintro e w2 ⟨q,rb,rfl,hRd,hb,hrb⟩
 have hI : RI w1 w1.heap.size q rb w2 (ptImg G Q S HD N c h rest):=⟨(Ext.refl w1).step hb,hRd,by rw [hB.1]; unfold big; omega⟩
 obtain ⟨q0,hq0⟩:=qnm w1.heap.size
 have hrb0 : ∀ k,rb = some k -> q0 <= k:=by obtain ⟨_,_,_,_,_,_,_,h6⟩:=hRd; rw [hq0]; exact h6
 have hqq : q0 <= q:=by rw [hq0]; exact hRd.1
 have hql:=hRd.lt
 rw [<- hq0] at hI
 have HQ0:=qh hq0
 obtain ⟨n1,n2,n3,n4,n5,n6,n7⟩:=HIN.out
 have HX:=qh (show ptImg G Q S HD N c h rest = be G 8 ++ (be Q 8 ++ (be S 2 ++ (HD ++ (be N 8 ++ (be (c / 65536) 2 ++ (be (c % 65536) 2 ++ (h ++ rest))))))) by unfold ptImg ptHead; rw [be_mod c]; simp only [List.append_assoc])
 rw [HX.out] at hI
 clear hRd hb hq0
 go_wp2_with fail
 refine (rlong_ok G hI n1).mono ?_
 rintro e w3 ⟨rfl,hI⟩
 go_wp2_with fail
 refine (rlong_ok Q hI n2).mono ?_
 rintro e w4 ⟨rfl,hI⟩
 go_wp2_with fail
 refine (rshort_ok S hI n3).mono ?_
 rintro e w5 ⟨rfl,hI⟩
 have h5q:=hI.2.1.lt
 go_wp2_with fail
 refine (rraw_ok HD 32 hI (by rw [n4]; rfl)).mono ?_
 rintro e w6 ⟨⟨vh,rfl,hOH⟩,hI⟩
 obtain ⟨ah,ch,rfl,hBH⟩:=hOH.bsn (n:=32) n4
 have hbm:=(Below.refl w6.heap.size w6).alloc (Nat.le_refl _) (.cells #[.int .u64 (G : Int),.int .u64 (Q : Int),.int .i64 (S : Int),.slice ah 32 ch,.slice none 0 0] 91)
 have hM:=heap_alloc_new w6 (.cells #[.int .u64 (G : Int),.int .u64 (Q : Int),.int .i64 (S : Int),.slice ah 32 ch,.slice none 0 0] 91)
 have hD : DI w1 q0 q w6.heap.size w5.heap.size rb ah ch HD _ _ (w6.alloc (.cells #[.int .u64 (G : Int),.int .u64 (Q : Int),.int .i64 (S : Int),.slice ah 32 ch,.slice none 0 0] 91)):=⟨hI.below hbm,hM,hOH.below hbm,Nat.ne_of_lt hI.2.1.lt,h5q,fun k hk => Nat.ne_of_lt (hOH.ltp k hk)⟩
 have h6q:=hI.2.1.lt
 obtain ⟨B1,hB1⟩:=qnm w5.heap.size
 rw [<- hB1] at hD
 clear hbm hM hI hBH hOH h5q hrb hrb0 hql
 go_wp2_with fail
 generalize w6.alloc (.cells #[.int .u64 (G : Int),.int .u64 (Q : Int),.int .i64 (S : Int),.slice ah 32 ch,.slice none 0 0] 91) = w7 at *
 obtain ⟨M,hM0⟩:=qnm w6.heap.size
 have HQM:=qh h6q
 rw [<- hM0] at hD HQM ⊢
 clear h6q
 clear hM0 hB1
 refine (dlong_ok N hD n5).mono ?_
 rintro e w8 ⟨rfl,hD⟩
 go_wp2_with fail
 refine (dshort_ok (c / 65536) hD (by omega)).mono ?_
 rintro e w9 ⟨rfl,hD⟩
 go_wp2_with fail
 refine (dshort_ok (c % 65536) hD (by omega)).mono ?_
 rintro e w10 ⟨rfl,hD⟩
 have H10:=qh (aI hD.ri.2.1.lt (lt_of_heap hD.m))
 go_wp2_with fail
 refine (draw_ok h 32 hD (by rw [n7]; rfl)).mono ?_
 rintro e w11 ⟨⟨vx,rfl,hOX⟩,hD,hc11⟩
 have HSX:=qh hc11.size
 clear hc11
 obtain ⟨ax,cx,rfl,hBX⟩:=hOX.bsn (n:=32) n7
 have hor:=or_halves c n6
 have hxl:=hB.1
 have hcap:=hB.2.1
 have hlp:=HBD.out
 have hll:=HLE.out
 have hrl : len = 94 + rest.length:=by rw [<- hxl,ptImg_length _ _ _ _ _ _ _ _ n4 n7]
 have HRL:=qh hrl
 clear hrl
 have hq1 : H + 1 < q0:=by rw [HQ0.out]; exact lt_of_heap hZ
 have hq2 : H < q0:=by omega
 have e58 : (58 : Int) <= (cap : Int):=by omega
 have e58n : 58 <= cap:=by omega
 have htk : (ptImg G Q S HD N c h rest).take 58 = ptHead G Q S HD N:=by unfold ptImg; exact List.take_left' (ptHead_length G Q S HD N n4)
 have hBt:=hD.ri.1.bs HQ0.out.symm (hB.take (k:=58) (by omega))
 rw [htk] at hBt
 have hWY : ptWhy p g G Q S HD N c h rest = if c ≠ crcMore 0 (ptHead G Q S HD N) then 14 else if ¬ (1 <= G /\ G <= MT /\ Q <= MT /\ (S : Int) <= g /\ (N : Int) <= 128 * p - 94 /\ noughts (rest.drop N) = true) then 12 else if sha (rest.take N) ≠ h then 40 else 0:=rfl
 have HW0:=qh hWY
 clear hWY htk hBX
 go_wp2_with fail
 refine (sum_any a 58 cap _ w11 hBt).mono ?_
 rintro e w12 ⟨rfl,rfl⟩
 generalize crcMore 0 (ptHead G Q S HD N) = cr at *
 clear hBt
 have hEx:=hE.to (hD.ri.1.1.mono (by rw [HQ0.out]; exact hE.2))
 have hZx:=(hD.ri.1.1.block (H + 1) hq1).trans hZ
 have hPx:=(hD.ri.1.1.block H hq2).trans hP
 by_cases hc : c = cr
 ·have hcn : ((c : Int) != (cr : Int)) = false:=by rw [bne_eq_false_iff_eq]; omega
  have x0:=cells_at hPx 0
  have x1:=cells_at hPx 1
  have x2:=cells_at hPx 2
  simp only [List.getElem?_toArray,List.getElem?_cons_zero,List.getElem?_cons_succ] at x0 x1 x2
  have y0:=cells_at hD.m 0
  have y1:=cells_at hD.m 1
  have y2:=cells_at hD.m 2
  have y3:=cells_at hD.m 3
  have y4:=cells_at hD.m 4
  simp only [List.getElem?_toArray,List.getElem?_cons_zero,List.getElem?_cons_succ] at y0 y1 y2 y3 y4
  have HW1 : Hid (ptWhy p g G Q S HD N c h rest = if ¬ (1 <= G /\ G <= MT /\ Q <= MT /\ (S : Int) <= g /\ (N : Int) <= 128 * p - 94 /\ noughts (rest.drop N) = true) then 12 else if sha (rest.take N) ≠ h then 40 else 0):=qh (by rw [HW0.out,if_neg (by simp [hc])])
  have HRT:=qh (ptright_any s p g ⟨G,Q,(S : Int),HD,[]⟩ ah none 32 ch 0 0 w11 n4)
  clear hc HW0
  go_wp2_with fail
  refine HRT.out.mono ?_
  rintro e w13 ⟨rfl,hb⟩
  replace hD:=hD.below hb
  replace hOX:=hOX.below hb
  replace HSX:=qh (Nat.le_trans HSX.out hb.size)
  clear hb HRT hEx hZx hPx x0 x1 x2 y0 y1 y2 y3 y4
  have hEx:=hE.to (hD.ri.1.1.mono (by rw [HQ0.out]; exact hE.2))
  have hZx:=(hD.ri.1.1.block (H + 1) hq1).trans hZ
  have hPx:=(hD.ri.1.1.block H hq2).trans hP
  by_cases hr : Mk.right ⟨G,Q,(S : Int),HD,[]⟩ g
  ·rw [decide_eq_true hr]
   obtain ⟨r1,r2,r3,r4,r5,r6⟩:=hr
   simp only at r1 r2 r3 r4 r5 r6
   have HRR:=qh (aI r1 (aI r2 (aI r3 r5)))
   clear r1 r2 r3 r4 r5 r6
   have x0:=cells_at hPx 0
   have x1:=cells_at hPx 1
   have x2:=cells_at hPx 2
   simp only [List.getElem?_toArray,List.getElem?_cons_zero,List.getElem?_cons_succ] at x0 x1 x2
   have i2 : IntKind.u64.wrap (128 * p - 94) = 128 * p - 94:=by rw [IntKind.wrap_u64]; omega
   have HRM:=qh (room_ok s p g w13 HPL.out)
   go_wp2_with fail
   refine HRM.out.mono ?_
   rintro e w14 ⟨rfl,hb⟩
   replace hD:=hD.below hb
   replace hOX:=hOX.below hb
   replace HSX:=qh (Nat.le_trans HSX.out hb.size)
   clear hb HRM hEx hZx hPx x0 x1 x2
   have hEx:=hE.to (hD.ri.1.1.mono (by rw [HQ0.out]; exact hE.2))
   have hZx:=(hD.ri.1.1.block (H + 1) hq1).trans hZ
   have hPx:=(hD.ri.1.1.block H hq2).trans hP
   by_cases hN : (N : Int) <= 128 * p - 94
   ·have hN2 : ¬ 128 * p - 94 < (N : Int):=by omega
    have HN:=qh hN
    have i3 : IntKind.i64.wrap (N : Int) = (N : Int):=IntWalk.i64_in _ (by omega)
    obtain ⟨K,hK⟩ : ∃ K : Nat,K = 94 + N:=⟨_,rfl⟩
    have i4 : IntKind.i64.wrap (94 + (N : Int)) = (K : Int):=by rw [IntWalk.i64_in _ (by omega)]; omega
    have k1 : (K : Int) <= (len : Int):=by omega
    have k2 : K <= len:=by omega
    have k3 : (0 : Int) <= (K : Int):=by omega
    have hdr : (ptImg G Q S HD N c h rest).drop K = rest.drop N:=by
     have hl : (ptHead G Q S HD N ++ (be (c / 65536) 2 ++ (be c 2 ++ h))).length = 94:=by simp [ptHead_length _ _ _ _ _ n4,be_length,n7]
     have e : ptImg G Q S HD N c h rest = (ptHead G Q S HD N ++ (be (c / 65536) 2 ++ (be c 2 ++ h))) ++ rest:=by unfold ptImg; simp only [List.append_assoc]
     rw [e,hK,<- hl,List.drop_append,List.drop_eq_nil_of_le (by omega),List.nil_append]
     congr 1
     omega
    have hBd:=hD.ri.1.bs HQ0.out.symm (hB.drop (k:=K) k2)
    rw [hdr] at hBd
    obtain ⟨ad,had⟩ : ∃ ad,(if cap = K then a else a.map (·.add K)) = ad:=⟨_,rfl⟩
    rw [had] at hBd
    have HK:=qh hK
    have HTR:=qh (trim_any ad (len - K) (cap - K) _ w14 hBd)
    clear hN hK hdr hBd
    go_wp2_with fail
    refine HTR.out.mono ?_
    rintro e w15 ⟨⟨at1,kt,ct1,rfl,hkt⟩,hb⟩
    replace hD:=hD.below hb
    replace hOX:=hOX.below hb
    replace HSX:=qh (Nat.le_trans HSX.out hb.size)
    clear hb HTR hEx hZx hPx had
    have hEx:=hE.to (hD.ri.1.1.mono (by rw [HQ0.out]; exact hE.2))
    have hZx:=(hD.ri.1.1.block (H + 1) hq1).trans hZ
    have hPx:=(hD.ri.1.1.block H hq2).trans hP
    by_cases hn0 : nil0 (rest.drop N) = true
    ·obtain rfl : kt = 0:=by
      refine Classical.byContradiction fun h => ?_
      have:=hkt.1 (by omega)
      rw [hn0] at this
      cases this
     have HW2 : Hid (ptWhy p g G Q S HD N c h rest = if sha (rest.take N) ≠ h then 40 else 0):=qh (by rw [HW1.out,if_neg]; simp only [Classical.not_not]; exact ⟨HRR.out.1,HRR.out.2.1,HRR.out.2.2.1,HRR.out.2.2.2,HN.out,hn0⟩)
     have hTl : (rest.take N).length = N:=by have h1:=HN.out; have h2:=HRL.out; rw [List.length_take]; omega
     have hDr:=hD
     rw [<- List.take_append_drop N rest] at hDr
     clear hn0 hkt HW1 hD hEx hZx hPx
     generalize rest.drop N = L2 at *
     have HMK : Hid (ptMk 0 G Q S HD N rest = ⟨G,Q,(S : Int),HD,rest.take N⟩):=qh rfl
     generalize rest.take N = T at *
     go_wp2_with fail
     refine (draw_ok T N hDr (by rw [hTl])).mono ?_
     rintro e w16 ⟨⟨vt,rfl,hOT⟩,hD,hch⟩
     obtain ⟨al,cl,rfl,hBT⟩:=hOT.bsn (n:=N) hTl
     have hOX6:=hch.own hOX (fun k hk e => by have h1:=hOX.blk k hk; have h2:=H10.out.1; omega)
     have hEx:=hE.to (hD.ri.1.1.mono (by rw [HQ0.out]; exact hE.2))
     have hZx:=(hD.ri.1.1.block (H + 1) hq1).trans hZ
     have y4:=cells_at hD.m 4
     have g4:=frozen_at hD.m 4
     simp only [List.getElem?_toArray,List.getElem?_cons_zero,List.getElem?_cons_succ] at y4
     have hMH : H + 1 < M:=by have:=HQM.out; omega
     have hOTs:=hOT.setOther (p:=⟨M,4,none⟩) (fun k hk e => by have h1:=hOT.blk k hk; have h2:=H10.out.2; have h3:=HSX.out; have e' : k = M:=e; omega) (.slice al N cl)
     have hOXs:=hOX6.setOther (p:=⟨M,4,none⟩) (fun k hk e => by have h1:=hOX.blk k hk; have h2:=H10.out.2; have e' : k = M:=e; omega) (.slice al N cl)
     have hOHs:=hD.oh.setOther (p:=⟨M,4,none⟩) (fun k hk e => hD.hM k hk e) (.slice al N cl)
     have hMs:=cells_set (k:=4) (y:=.slice al N cl) hD.m
     have hEs:=hEx.setCell (p:=⟨M,4,none⟩) (by show H <= M; omega) (.slice al N cl)
     have hZs:=cells_far (Z:=M) (k:=4) (y:=.slice al N cl) hZx (by omega)
     have HB1:=qh (show H + 1 < B1 by have:=hD.qB; omega)
     have H151:=qh (show H + 1 < w15.heap.size by have h2:=H10.out.2; have h3:=HSX.out; omega)
     clear hEx hZx hBT hOT hOX6 hOX hch hDr hMH
     go_wp2_with fail
     generalize w16.setCell ⟨M,4,none⟩ (.slice al N cl) = w17 at *
     clear y4 g4 hD
     simp only [List.setIfInBounds_toArray,List.set_cons_succ,List.set_cons_zero] at hMs
     obtain ⟨al2,cl2,hv2,hBT⟩:=hOTs.bsn (n:=N) hTl
     injection hv2 with hv2 hv3 hv4
     subst hv2 hv4
     clear hv3
     refine (shasum_any al N cl T w17 hBT (by have:=HRL.out; have:=HN.out; omega)).mono ?_
     rintro e w18 ⟨vs,rfl,hOS,hb⟩
     obtain ⟨asx,cs,rfl,hBS⟩:=hOS.bsn (n:=32) (sha_length _)
     replace hOTs:=hOTs.below hb
     replace hOXs:=hOXs.below hb
     replace hOHs:=hOHs.below hb
     replace hMs:=(hb.block M (lt_of_heap hMs)).trans hMs
     replace hEs:=hEs.step hb
     replace hZs:=(hb.block (H + 1) (lt_of_heap hZs)).trans hZs
     clear hb hOS hBT
     obtain ⟨ax2,cx2,hv2,hBX⟩:=hOXs.bsn (n:=32) n7
     injection hv2 with hv2 hv3 hv4
     subst hv2 hv4
     clear hv3 hOXs
     have HEQ:=qh (beq_any asx ax 32 32 cs cx (sha T) h w18 hBS hBX)
     clear hBS hBX
     by_cases he : sha T = h
     ·rw [decide_eq_true he] at HEQ
      have HWY : Hid (ptWhy p g G Q S HD N c h rest = 0):=qh (by rw [HW2.out,if_neg (by simp [he])])
      clear he
      go_wp2_with fail
      refine HEQ.out.mono ?_
      rintro e w19 ⟨rfl,rfl⟩
      have y0:=cells_at hMs 0
      have y1:=cells_at hMs 1
      have y2:=cells_at hMs 2
      have y3:=cells_at hMs 3
      have y4:=cells_at hMs 4
      simp only [List.getElem?_toArray,List.getElem?_cons_zero,List.getElem?_cons_succ] at y0 y1 y2 y3 y4
      have hz:=lt_of_heap hZs
      have z0:=cells_at hZs 0
      have z1:=cells_at hZs 1
      have z2:=cells_at hZs 2
      have z3:=cells_at hZs 3
      have z4:=cells_at hZs 4
      have f0:=frozen_at hZs 0
      have f1:=frozen_at hZs 1
      have f2:=frozen_at hZs 2
      have f3:=frozen_at hZs 3
      have f4:=frozen_at hZs 4
      simp only [List.getElem?_toArray,List.getElem?_cons_zero,List.getElem?_cons_succ] at z0 z1 z2 z3 z4
      go_wp2_with fail
      refine bodyPost_ret (v:=.tuple #[.agg #[.int .u64 (G : Int),.int .u64 (Q : Int),.int .i64 (S : Int),.slice ah 32 ch,.slice al N cl],.int .i64 0]) (by simp [results,Tryz.results208,go_sem,z0,z1,z2,z3,z4]) rfl ⟨?_,below5 hEs.1 (Nat.le_succ _) _ _ _ _ _⟩
      rw [HWY.out,HMK.out]
      exact ⟨ah,32,ch,al,N,cl,rfl,(hOHs.store5 (fun k hk e => by have h1:=hOHs.blk k hk; have h2:=HB1.out; omega) _ _ _ _ _).weaken (by have h2:=HB1.out; omega),(hOTs.store5 (fun k hk e => by have h1:=hOTs.blk k hk; have h2:=H151.out; omega) _ _ _ _ _).weaken (by have h2:=H151.out; omega)⟩
     ·rw [decide_eq_false he] at HEQ
      have HWY : Hid (ptWhy p g G Q S HD N c h rest = 40):=qh (by rw [HW2.out,if_pos he])
      clear he
      go_wp2_with fail
      refine HEQ.out.mono ?_
      rintro e w19 ⟨rfl,rfl⟩
      have hz:=lt_of_heap hZs
      have z0:=cells_at hZs 0
      have z1:=cells_at hZs 1
      have z2:=cells_at hZs 2
      have z3:=cells_at hZs 3
      have z4:=cells_at hZs 4
      have f0:=frozen_at hZs 0
      have f1:=frozen_at hZs 1
      have f2:=frozen_at hZs 2
      have f3:=frozen_at hZs 3
      have f4:=frozen_at hZs 4
      simp only [List.getElem?_toArray,List.getElem?_cons_zero,List.getElem?_cons_succ] at z0 z1 z2 z3 z4
      go_wp2_with fail
      refine bodyPost_ret (v:=.tuple #[.agg #[.int .u64 0,.int .u64 0,.int .i64 0,.slice none 0 0,.slice none 0 0],.int .i64 40]) (by simp [results,Tryz.results208,go_sem,z0,z1,z2,z3,z4]) rfl ⟨by rw [HWY.out]; exact PtPost.zero 40 _ _,below5 hEs.1 (Nat.le_succ _) _ _ _ _ _⟩
    ·have hk0 : (0 : Int) < (kt : Int):=by have:=hkt.2 (by simpa using hn0); omega
     have HWY : Hid (ptWhy p g G Q S HD N c h rest = 12):=qh (by rw [HW1.out,if_pos]; intro hh; exact hn0 hh.2.2.2.2.2)
     clear hkt
     have hz:=lt_of_heap hZx
     have z0:=cells_at hZx 0
     have z1:=cells_at hZx 1
     have z2:=cells_at hZx 2
     have z3:=cells_at hZx 3
     have z4:=cells_at hZx 4
     have f0:=frozen_at hZx 0
     have f1:=frozen_at hZx 1
     have f2:=frozen_at hZx 2
     have f3:=frozen_at hZx 3
     have f4:=frozen_at hZx 4
     simp only [List.getElem?_toArray,List.getElem?_cons_zero,List.getElem?_cons_succ] at z0 z1 z2 z3 z4
     go_wp2_with fail
     refine bodyPost_ret (v:=.tuple #[.agg #[.int .u64 0,.int .u64 0,.int .i64 0,.slice none 0 0,.slice none 0 0],.int .i64 12]) (by simp [results,Tryz.results208,go_sem,z0,z1,z2,z3,z4]) rfl ⟨by rw [HWY.out]; exact PtPost.zero 12 _ _,below5 hEx.1 (Nat.le_succ _) _ _ _ _ _⟩
   ·have hN2 : 128 * p - 94 < (N : Int):=by omega
    have HWY : Hid (ptWhy p g G Q S HD N c h rest = 12):=qh (by rw [HW1.out,if_pos]; intro hh; exact hN hh.2.2.2.2.1)
    have hz:=lt_of_heap hZx
    have z0:=cells_at hZx 0
    have z1:=cells_at hZx 1
    have z2:=cells_at hZx 2
    have z3:=cells_at hZx 3
    have z4:=cells_at hZx 4
    have f0:=frozen_at hZx 0
    have f1:=frozen_at hZx 1
    have f2:=frozen_at hZx 2
    have f3:=frozen_at hZx 3
    have f4:=frozen_at hZx 4
    simp only [List.getElem?_toArray,List.getElem?_cons_zero,List.getElem?_cons_succ] at z0 z1 z2 z3 z4
    go_wp2_with fail
    refine bodyPost_ret (v:=.tuple #[.agg #[.int .u64 0,.int .u64 0,.int .i64 0,.slice none 0 0,.slice none 0 0],.int .i64 12]) (by simp [results,Tryz.results208,go_sem,z0,z1,z2,z3,z4]) rfl ⟨by rw [HWY.out]; exact PtPost.zero 12 _ _,below5 hEx.1 (Nat.le_succ _) _ _ _ _ _⟩
  ·rw [decide_eq_false hr]
   have HWY : Hid (ptWhy p g G Q S HD N c h rest = 12):=qh (by rw [HW1.out,if_pos]; intro hh; exact hr ⟨hh.1,hh.2.1,hh.2.2.1,by simp,hh.2.2.2.1,n4⟩)
   have hz:=lt_of_heap hZx
   have z0:=cells_at hZx 0
   have z1:=cells_at hZx 1
   have z2:=cells_at hZx 2
   have z3:=cells_at hZx 3
   have z4:=cells_at hZx 4
   have f0:=frozen_at hZx 0
   have f1:=frozen_at hZx 1
   have f2:=frozen_at hZx 2
   have f3:=frozen_at hZx 3
   have f4:=frozen_at hZx 4
   simp only [List.getElem?_toArray,List.getElem?_cons_zero,List.getElem?_cons_succ] at z0 z1 z2 z3 z4
   go_wp2_with fail
   refine bodyPost_ret (v:=.tuple #[.agg #[.int .u64 0,.int .u64 0,.int .i64 0,.slice none 0 0,.slice none 0 0],.int .i64 12]) (by simp [results,Tryz.results208,go_sem,z0,z1,z2,z3,z4]) rfl ⟨by rw [HWY.out]; exact PtPost.zero 12 _ _,below5 hEx.1 (Nat.le_succ _) _ _ _ _ _⟩
 ·have hcn : ((c : Int) != (cr : Int)) = true:=by rw [bne_iff_ne]; omega
  have HWY : Hid (ptWhy p g G Q S HD N c h rest = 14):=qh (by rw [HW0.out,if_pos hc])
  have hz:=lt_of_heap hZx
  have z0:=cells_at hZx 0
  have z1:=cells_at hZx 1
  have z2:=cells_at hZx 2
  have z3:=cells_at hZx 3
  have z4:=cells_at hZx 4
  have f0:=frozen_at hZx 0
  have f1:=frozen_at hZx 1
  have f2:=frozen_at hZx 2
  have f3:=frozen_at hZx 3
  have f4:=frozen_at hZx 4
  simp only [List.getElem?_toArray,List.getElem?_cons_zero,List.getElem?_cons_succ] at z0 z1 z2 z3 z4
  go_wp2_with fail
  refine bodyPost_ret (v:=.tuple #[.agg #[.int .u64 0,.int .u64 0,.int .i64 0,.slice none 0 0,.slice none 0 0],.int .i64 14]) (by simp [results,Tryz.results208,go_sem,z0,z1,z2,z3,z4]) rfl ⟨by rw [HWY.out]; exact PtPost.zero 14 _ _,below5 hEx.1 (Nat.le_succ _) _ _ _ _ _⟩
end
end Go.Proofs.YtabdcphioccgnaaGreatDoor
