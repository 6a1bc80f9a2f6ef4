/- TreeCopy; Build; Genesis. -/
import Derived.Test.YtabdcphioccgnaaGreatDoorK15
import Derived.Test.YtabdcphioccgnaaGreatDoorK19
set_option maxRecDepth 100000
set_option maxHeartbeats 8000000
namespace Go.Proofs.YtabdcphioccgnaaGreatDoor
section
open Go.RowKit Go.ChangeMaps Go.MapKept Go.Maps
theorem rising_ext {α : Type} : ∀ (A B : List (Nat × α)),A.Pairwise (fun p q => p.1 < q.1) -> B.Pairwise (fun p q => p.1 < q.1) -> (∀ k,getK k A = getK k B) -> A = B
 | [],[],_,_,_ => rfl
 | [],y :: r,_,_,h => by have:=h y.1; simp [getK] at this
 | x :: r,[],_,_,h => by have:=h x.1; simp [getK] at this
 | x :: r,y :: s,ha,hb,h => by
  obtain ⟨a1,a2⟩:=List.pairwise_cons.1 ha
  obtain ⟨b1,b2⟩:=List.pairwise_cons.1 hb
  have hmem : ∀ {k : Nat} {v : α} {L : List (Nat × α)},getK k L = some v -> (k,v) ∈ L:=fun h => mem_of_getK h
  have hx : getK x.1 (x :: r) = some x.2:=by simp [getK]
  have hy : getK y.1 (y :: s) = some y.2:=by simp [getK]
  have e1 : x.1 = y.1:=by
   have m1:=hmem ((h x.1) ▸ hx)
   have m2:=hmem ((h y.1).symm ▸ hy)
   rcases List.mem_cons.1 m1 with m1 | m1
   ·exact congrArg Prod.fst m1
   ·rcases List.mem_cons.1 m2 with m2 | m2
    ·exact (congrArg Prod.fst m2).symm
    ·have:=b1 _ m1; have:=a1 _ m2; simp only at *; omega
  have e2 : x.2 = y.2:=by
   have:=h x.1
   rw [hx,e1,hy] at this
   injection this
  have e3 : x = y:=Prod.ext e1 e2
  subst e3
  rw [rising_ext r s a2 b2 (fun k => by
   have hk:=h k
   unfold getK at hk ⊢
   rw [List.find?_cons,List.find?_cons] at hk
   by_cases hxk : x.1 = k
   ·have n1 : ∀ (L : List (Nat × α)),(∀ p ∈ L,x.1 < p.1) -> L.find? (fun p => decide (p.1 = k)) = none:=fun L hL => List.find?_eq_none.2 (fun p hp => by have:=hL p hp; simp; omega)
    rw [n1 r a1,n1 s b1]
   ·simpa [hxk] using hk)]
variable {w : World} {L B t mb c : Nat} {F G : Nat -> Nat} {T : Tr}
theorem copy_cells {w w' : World} {t2 mb2 g : Nat} {n : Nd} {v m : Value}
  (h : w.cell? ⟨t2,0,none⟩ = some (Value.map (some mb2)) /\ w.cell? ⟨g,0,none⟩ = some (Value.int .i64 n.id) /\ w.cell? ⟨g,1,none⟩ = some (Value.int .i64 n.kind) /\ w.cell? ⟨g,2,none⟩ = some (Value.int .i64 n.links) /\ w.cell? ⟨g,3,none⟩ = some (Value.int .i64 n.size) /\ w.cell? ⟨g,4,none⟩ = some (Value.int .u64 (n.til : Int)) /\ w.cell? ⟨g,5,none⟩ = some (Value.bool n.closed) /\ w.cell? ⟨g,6,none⟩ = some v /\ w.cell? ⟨g,7,none⟩ = some m)
  (ht : t2 < w.heap.size) (hg : g < w.heap.size) (hb : Below w.heap.size w w') :
  w'.cell? ⟨t2,0,none⟩ = some (Value.map (some mb2)) /\ w'.cell? ⟨g,0,none⟩ = some (Value.int .i64 n.id) /\ w'.cell? ⟨g,1,none⟩ = some (Value.int .i64 n.kind) /\ w'.cell? ⟨g,2,none⟩ = some (Value.int .i64 n.links) /\ w'.cell? ⟨g,3,none⟩ = some (Value.int .i64 n.size) /\ w'.cell? ⟨g,4,none⟩ = some (Value.int .u64 (n.til : Int)) /\ w'.cell? ⟨g,5,none⟩ = some (Value.bool n.closed) /\ w'.cell? ⟨g,6,none⟩ = some v /\ w'.cell? ⟨g,7,none⟩ = some m:=by
 obtain ⟨h0,h1,h2,h3,h4,h5,h6,h7,h8⟩:=h
 exact ⟨(hb.cell (p:=⟨t2,0,none⟩) ht).trans h0,(hb.cell (p:=⟨g,0,none⟩) hg).trans h1,(hb.cell (p:=⟨g,1,none⟩) hg).trans h2,(hb.cell (p:=⟨g,2,none⟩) hg).trans h3,(hb.cell (p:=⟨g,3,none⟩) hg).trans h4,(hb.cell (p:=⟨g,4,none⟩) hg).trans h5,(hb.cell (p:=⟨g,5,none⟩) hg).trans h6,(hb.cell (p:=⟨g,6,none⟩) hg).trans h7,(hb.cell (p:=⟨g,7,none⟩) hg).trans h8⟩
def Alien (w : World) (k : Nat) : Prop:=(∀ C ty fr,w.heap[k]? = some (.cells C ty fr) -> ty ≠ TB /\ ty ≠ TItem /\ ty ≠ TTree) /\ ∀ es cl,w.heap[k]? ≠ some (.map es cl)
theorem Own.alien {S : Nat -> Prop} {w w' : World} {v : Value} {xs : List UInt8} (h : Own w L v xs) (hc : Chg S w w') (hs : ∀ k,k < w.heap.size -> S k -> k < L ∨ Alien w k) : Own w' L v xs:=by
 refine hc.own h fun k hk hS => ?_
 rcases h.parts with ⟨rfl,rfl⟩ | ⟨g,cap,rfl,hB,hr⟩
 ·simp [Value.ownBlock] at hk
 ·have : g = k:=by simpa [Value.ownBlock] using hk
  subst this
  obtain ⟨cur,h1,_⟩:=hr
  rcases hs g (Array.getElem?_eq_some_iff.1 h1).1 hS with h2 | h2
  ·omega
  ·exact (h2.1 _ _ _ h1).1 rfl
theorem ItAt.alien {S : Nat -> Prop} {w w' : World} {g nb : Nat} {x : It} (h : ItAt w L B g nb x) (hLB : L <= B) (hc : Chg S w w') (hs : ∀ k,k < w.heap.size -> S k -> k < L ∨ Alien w k) : ItAt w' L B g nb x:=by
 obtain ⟨h1,v,m,h2,h3,h4,h5⟩:=h
 refine ⟨h1,v,m,(hc.block g (Array.getElem?_eq_some_iff.1 h2).1 (fun hS => ?_)).trans h2,h3.alien hc hs,fun hk => ?_,h5⟩
 ·rcases hs g (Array.getElem?_eq_some_iff.1 h2).1 hS with h6 | h6
  ·omega
  ·exact (h6.1 _ _ _ h2).2.1 rfl
 ·obtain ⟨k1,k2,k3⟩:=h4 hk
  refine ⟨k1,k2,k3.same strS (hc.block nb k3.lt (fun hS => ?_))⟩
  rcases hs nb k3.lt hS with h6 | h6
  ·omega
  ·obtain ⟨es,cl,hm,_⟩:=k3
   exact h6.2 _ _ hm
theorem TreeIn.alien {S : Nat -> Prop} {w w' : World} (h : TreeIn w L B t mb F G T) (hLB : L <= B) (hc : Chg S w w') (hs : ∀ k,k < w.heap.size -> S k -> k < L ∨ Alien w k) : TreeIn w' L B t mb F G T where
 tge:=h.tge
 mge:=h.mge
 cel:=(hc.block t h.lt (fun hS => by
  rcases hs t h.lt hS with h6 | h6
  ·have:=h.tge; omega
  ·exact (h6.1 _ _ _ h.cel).2.2 rfl)).trans h.cel
 map:=h.map.same numS (hc.block mb h.map.lt (fun hS => by
  rcases hs mb h.map.lt hS with h6 | h6
  ·have:=h.mge; omega
  ·obtain ⟨es,cl,hm,_⟩:=h.map
   exact h6.2 _ _ hm))
 item i x hx:=(h.item i x hx).alien hLB hc hs
 gm:=h.gm
 injF:=h.injF
 injG:=h.injG
theorem iter_alien {H : Type} {P : Program} {R : Value -> Option (DataW H × List MemPlace)} {kt : TypeId} {w : World} {b r n : Nat} {D : DataW H} {left : Lit -> Bool} {cnt : Nat} (h : w.ranges P kt R b r n D left cnt) : Alien w r:=by
 obtain ⟨es,clock,since,seen,c0,_,_,_,_,hr,_⟩:=h
 exact ⟨fun C ty fr hC => (by rw [hr] at hC; injection hC with hC; cases hC),fun es cl hC => by rw [hr] at hC; injection hC with hC; cases hC⟩
theorem mclone_item {x : It} {mo : Option Nat} {nb : Nat} (h4 : x.n.kind = 2 -> Value.map mo = .map (some nb) /\ MapAt strS Tryz.prog TStr w nb (vals nval x.names)) (h5 : x.n.kind ≠ 2 -> Value.map mo = .map none /\ x.names = []) :
  Calls Tryz.prog 110 #[.map mo] w fun e w' => ∃ mo',e = .returned (.map mo') /\ Below w.heap.size w w' /\ (x.n.kind = 2 -> Value.map mo' = .map (some w.heap.size) /\ MapAt strS Tryz.prog TStr w' w.heap.size (vals nval x.names)) /\ (x.n.kind ≠ 2 -> Value.map mo' = .map none /\ x.names = []):=by
 by_cases hk : x.n.kind = 2
 ·obtain ⟨e,hM⟩:=h4 hk
  rw [e]
  exact (mclone_any nb _ w hM).mono fun e w' ⟨h1,h2,h3⟩ => ⟨_,h1,h3,fun _ => ⟨rfl,h2⟩,fun h => absurd hk h⟩
 ·obtain ⟨e,hn⟩:=h5 hk
  rw [e]
  exact (mclone_nil w).mono fun e w' ⟨h1,h2⟩ => ⟨_,h1,by rw [h2]; exact Below.refl _ _,fun h => absurd h hk,fun _ => ⟨rfl,hn⟩⟩
theorem copy_put {w1 w2 w : World} {id g nb : Nat} {x : It} (h1 : TreeIn w1 L B t mb F G T) (hb2 : Below w1.heap.size w1 w2) (hba : Below w2.heap.size w2 w) (hI : ItAt w L w1.heap.size g nb x) (hnew : getK id T = none) (hid : id <= 1000000) (hlen : T.length <= 100000) (hnb : x.n.kind = 2 -> w1.heap.size <= nb) :
  ∃ w',(Instr.mapUpdate 186 (.map (some mb)) (.int .i64 (id : Int)) (.pointer (some ⟨g,0,none⟩))).run Tryz.prog w = .ok () w' /\
   TreeIn w' L B t mb (upd F id g) (upd G id nb) (putK numS id x T) /\ w.mapTurned w' mb:=by
 have hb : Below w1.heap.size w1 w:=hb2.trans (hba.mono hb2.size)
 have h:=h1.below hb
 obtain ⟨w',hr,hM,ht⟩:=h.map.put numS dkeyed ikeyed_ty (by rw [vals_len]; omega) (dkey id (by omega)) (.pointer (some ⟨g,0,none⟩))
 have hc:=turned_chg ht
 have hmlt:=h1.map.lt
 have hge:=hI.1
 refine ⟨w',hr,TreeIn.addItem h hc ?_ (fun j y hy => ?_) (fun hk => ⟨?_,fun j y hy hyk => ?_⟩) ?_,ht⟩
 ·have h1tge:=h1.tge
  have h1lt:=h1.lt
  exact (hI.chg hc (fun k _ e C hC => by
   subst e
   obtain ⟨es,cl,hm,_⟩:=h.map
   rw [hm] at hC; injection hC with hC; cases hC) (by omega) (fun hk => by have:=hnb hk; omega)).weaken (by omega)
 ·have:=h1.ltF hy; omega
 ·have:=hnb hk; omega
 ·have:=h1.ltG hy hyk; have:=hnb hk; omega
 ·have e1 : vals (ival F) T = vals (ival (upd F id g)) T:=vals_congr (fun k v hk => by
   unfold ival upd
   rw [if_neg (fun e => by rw [e,hnew] at hk; cases hk)]) h.ne
  have e2 : Value.pointer (some ⟨g,0,none⟩) = ival (upd F id g) id x:=by unfold ival upd; rw [if_pos rfl]
  rw [e1,e2,vals_put] at hM
  exact hM
theorem copy_item {w1 w2 : World} {x : It} {v m2 : Value} (h3 : Own w1 L v x.b) (hb2 : Below w1.heap.size w1 w2) (hk2 : x.n.kind = 2 -> m2 = .map (some w1.heap.size) /\ MapAt strS Tryz.prog TStr w2 w1.heap.size (vals nval x.names)) (hk1 : x.n.kind ≠ 2 -> m2 = .map none /\ x.names = []) :
  ItAt (w2.alloc (.cells #[.int .i64 x.n.id,.int .i64 x.n.kind,.int .i64 x.n.links,.int .i64 x.n.size,.int .u64 (x.n.til : Int),.bool x.n.closed,v,m2] TItem)) L w1.heap.size w2.heap.size w1.heap.size x:=by
 have hba:=(Below.refl w2.heap.size w2).alloc (Nat.le_refl _) (.cells #[.int .i64 x.n.id,.int .i64 x.n.kind,.int .i64 x.n.links,.int .i64 x.n.size,.int .u64 (x.n.til : Int),.bool x.n.closed,v,m2] TItem)
 refine ⟨hb2.size,v,m2,heap_alloc_new w2 _,(h3.below hb2).below hba,fun hk => ?_,hk1⟩
 obtain ⟨e,hM⟩:=hk2 hk
 exact ⟨e,Nat.le_refl _,hM.below strS hba⟩
theorem rising_len {α : Type} {A : List (Nat × α)} {n : Nat} (h : A.Pairwise (fun p q => p.1 < q.1)) (hb : ∀ p ∈ A,p.1 < n) : A.length <= n:=by
 have:=rising_le (n:=n) (A.map fun p => (p.1,Value.bool true)) 0 (by rw [List.pairwise_map]; exact h) (fun p hp => by obtain ⟨q,hq,rfl⟩:=List.mem_map.1 hp; exact ⟨Nat.zero_le _,hb q hq⟩)
 simpa using this
theorem tcopy_any (h : TreeIn w L B t mb F G T) (ok : TrOk c T) (hc : c <= 60000) (hLw : L <= w.heap.size) :
  Calls Tryz.prog 41 #[.pointer (some ⟨t,0,none⟩)] w fun e w' => ∃ t',e = .returned (.pointer (some ⟨t',0,none⟩)) /\ TreeAt w' L w.heap.size t' T /\ Below w.heap.size w w':=by
 have hmm:=@run_makeMap Tryz.prog
 have hba0:=((Ext.refl w).alloc (.map #[] 0)).alloc (.cells #[.map (some w.heap.size)] TTree)
 have hN:=heap_alloc_new (w.alloc (.map #[] 0)) (.cells #[.map (some w.heap.size)] TTree)
 have hM0:=(MapAt.made numS (P:=Tryz.prog) (k:=TI64) w).below numS ((Below.refl _ _).alloc (Nat.le_refl _) (.cells #[.map (some w.heap.size)] TTree))
 rw [World.size_alloc] at hN
 have hT0 : TreeIn ((w.alloc (.map #[] 0)).alloc (.cells #[.map (some w.heap.size)] TTree)) L w.heap.size (w.heap.size + 1) w.heap.size (fun _ => 0) (fun _ => 0) []:=by
  refine ⟨by omega,Nat.le_refl _,hN,hM0,fun i x hx => ?_,fun i x hx => ?_,fun i j x y hx => ?_,fun i j x y hx => ?_⟩ <;> simp [getK] at hx
 have hS0 : ((w.alloc (.map #[] 0)).alloc (.cells #[.map (some w.heap.size)] TTree)).heap.size = w.heap.size + 2:=by simp
 obtain ⟨w0,hw0⟩:=qnm ((w.alloc (.map #[] 0)).alloc (.cells #[.map (some w.heap.size)] TTree))
 rw [<- hw0] at hba0 hT0 hS0
 have hTs:=h.below hba0.1
 have c0:=hTs.cell0
 have hmap:=hTs.map
 have HT:=qh (aI h ok)
 have HT0:=qh hT0
 have HE0:=qh hba0
 have HW0:=qh hw0
 have HS0:=qh hS0
 have hmlt:=qh h.map.lt
 clear hba0 hN hM0 hT0 h ok hw0 hS0 hTs
 go_enter Tryz.func41,Tryz.ntmps41
 go_upto_region 2 with fail
 rw [<- HW0.out]
 obtain ⟨N,hN⟩:=qnm w.heap.size
 have HN:=qh hN
 rw [<- hN] at HT0 HS0 ⊢
 obtain ⟨t2,ht2⟩:=qnm (N + 1)
 rw [<- ht2] at HT0 ⊢
 have HT2:=qh ht2
 clear hN ht2
 go_wp2_with (first
  | (at_range; refine wpList_range_own _ rfl _ 186 rfl TI64 _ dkeyed ikeyed_ty RH mb (vals (ival F) T).length _ rfl hmap ?_; intro wa hrg0 hg0 hs0)
  | fail)
 obtain ⟨r0,hr0⟩:=qnm w0.heap.size
 rw [<- hr0] at hrg0 ⊢
 have HR0:=qh hr0
 have HG0:=qh (aI hg0 hs0)
 have HRG0:=qh hrg0
 clear hr0 hg0 hs0 hrg0 hmap c0 hmm
 go_loopw [4] (fun _ wx => ∃ (left : Lit -> Bool) (cnt : Nat) (Td : Tr) (F2 G2 : Nat -> Nat),wx.ranges Tryz.prog TI64 RH mb r0 (vals (ival F) T).length (mapK numS (vals (ival F) T)) left cnt /\ TreeIn wx L w.heap.size t2 N F2 G2 Td /\
   (∀ k,getK k Td = if left (numS.lit k) = true then none else getK k T) /\ Below w.heap.size w wx /\ r0 < wx.heap.size)
  (fun _ wx => wx.rangeLeft mb r0)
 case atStart =>
  obtain ⟨hg0,hs0⟩:=HG0.out
  have hb0 : Below w0.heap.size w0 wa:=(Below.refl _ w0).grown hg0 (Nat.le_refl _) (fun k hk => by cases hk)
  refine ⟨_,_,[],fun _ => 0,fun _ => 0,HRG0.out,by rw [<- HN.out]; exact HT0.out.below hb0,fun k => ?_,(HE0.out.step hb0).1,by have:=HR0.out; omega⟩
  rw [mapK_has,vals_get]
  cases hg : getK k T with
  | none => rfl
  | some x => rfl
 case round =>
  obtain ⟨left,cnt,Td,F2,G2,hrg,hTd,hget,hbw,hrlt⟩:=hrel
  clear HRG0 HG0 HT0 HW0
  go_wp2_with (first
   | (at_next; refine wpList_next_ranges _ rfl _ rfl TI64 dkeyed RH (Value.int .i64) (fun v => v) (fun key kl hk => by obtain ⟨x,rfl,_⟩:=Maps.keyOf_int_inv Tryz.underlying3 hk; exact ⟨x,rfl⟩) (fun v _ _ => ⟨v,rfl⟩) mb r0 (vals (ival F) T).length _ _ _ rfl hrg ?_ ?_)
   | fail)
  ·intro _ hl0
   have e : Td = T:=rising_ext Td T hTd.uniq HT.out.1.uniq (fun k => by rw [hget,hl0]; simp)
   subst e
   have HF:=qh (aI hTd hbw)
   clear hrg hget hTd hbw hl0
   go_wp2_with fail
   go_ret
   exact ⟨_,rfl,⟨_,_,_,HF.out.1⟩,HF.out.2⟩
  ·intro xk cv kl y ps w1 cnt1 hkey hlk hRc hat hrg1 hlt1 hg1 hs1 hen
   obtain ⟨i,rfl,rfl,hgi⟩:=entry_of (y:=(y,ps)) hkey hRc hat
   rw [vals_get] at hgi
   obtain ⟨x,hx,rfl⟩:=Option.map_eq_some_iff.1 hgi
   have hb1 : Chg (fun k => k = r0) wr w1:=⟨hg1.os,hg1.tape,hg1.output,hg1.size,fun k hk hne => hg1.block k hk (fun e => hne (by injection e))⟩
   have hi:=(HT.out.2.nd i x hx).1
   have hbw1 : Below w.heap.size w w1:=hbw.trans (hb1.below hbw.size (fun k _ e => by have:=HR0.out; have:=HS0.out; have:=HN.out; omega))
   have hI:=(HT.out.1.item i x hx).below hbw1
   have hT1:=hTd.alien hLw hb1 (fun k _ e => .inr (by rw [e]; exact iter_alien hrg))
   obtain ⟨_,v,m,h2,h3,h4,h5⟩:=hI
   obtain ⟨mo,rfl⟩ : ∃ mo,m = .map mo:=by
    by_cases hk : x.n.kind = 2
    ·exact ⟨_,(h4 hk).1⟩
    ·exact ⟨_,(h5 hk).1⟩
   obtain ⟨vn,hvn⟩ : ∃ vn,x.b.length = vn:=⟨_,rfl⟩
   obtain ⟨va,vc,rfl,_⟩:=h3.bsn hvn
   obtain ⟨d0,d1,d2,d3,d4,d5,d6,d7⟩:=item_cells h2
   obtain ⟨mb2,hmb2⟩:=qnm N
   rw [<- hmb2] at hT1
   have c0:=hT1.cell0
   have HCL:=qh (fun w' (hb : Below w1.heap.size w1 w') => mclone_item (w:=w') (x:=x) (nb:=G i) (fun hk => ⟨(h4 hk).1,(h4 hk).2.2.below strS hb⟩) h5)
   have HTL:=qh hT1.lt
   have HFL:=qh (Array.getElem?_eq_some_iff.1 h2).1
   have HT1:=qh (hT1.below (Below.refl _ w1).drew)
   have HOW:=qh (show Own w1.drew L (.slice va vn vc) x.b from h3.below (Below.refl _ w1).drew)
   have hnew : getK i Td = none:=by rw [hget,if_pos hlk]
   have hTl : Td.length <= c + 1:=rising_len hTd.uniq (fun p hp => by
    have:=getK_of_mem hTd.ne (k:=p.1) (v:=p.2) hp
    rw [hget] at this
    by_cases hl : left (numS.lit p.1) = true
    ·rw [if_pos hl] at this; cases this
    ·rw [if_neg hl] at this; have:=(HT.out.2.nd _ _ this).1; omega)
   have HIT:=qh (aI hnew (aI (show i <= 1000000 by omega) (show Td.length <= 100000 by omega)))
   have HMB:=qh hmb2
   have HRR:=qh (aI hrg (aI hrg1 (aI hget (aI hx (aI hlk (aI hbw1 (aI hlt1 (aI hs1 hrlt))))))))
   have hbw2:=qh hbw1
   unfold ival at hen ⊢
   clear hrg hrg1 hg1 hs1 hlt1 hat hRc hgi hkey hlk hget hnew hTl hTd hbw hb1 hbw1 hT1 hvn h2 h3 h4 h5 hx hmb2 hrlt
   go_upto_region 5 with fail
   refine heldB_start (fun i => [0,1,2,3,4,5,6,7,8,9,10,11,12,13,14,15,16,17,18,19].contains i) (fun w' => w'.cell? ⟨t2,0,none⟩ = some (Value.map (some mb2)) /\ w'.cell? ⟨F i,0,none⟩ = some (Value.int .i64 x.n.id) /\ w'.cell? ⟨F i,1,none⟩ = some (Value.int .i64 x.n.kind) /\ w'.cell? ⟨F i,2,none⟩ = some (Value.int .i64 x.n.links) /\ w'.cell? ⟨F i,3,none⟩ = some (Value.int .i64 x.n.size) /\ w'.cell? ⟨F i,4,none⟩ = some (Value.int .u64 (x.n.til : Int)) /\ w'.cell? ⟨F i,5,none⟩ = some (Value.bool x.n.closed) /\ w'.cell? ⟨F i,6,none⟩ = some (Value.slice va vn vc) /\ w'.cell? ⟨F i,7,none⟩ = some (Value.map mo)) (by kernel_rfl) ?_ (fun hHeld => ?_)
   ·go_keep
   refine qtk 0 19 ?_
   simp only [qz0,qz1]
   refine qtk 1 20 ?_
   simp only [qz0,qz1]
   refine qtk 2 21 ?_
   simp only [qz0,qz1]
   refine qtk 3 22 ?_
   simp only [qz0,qz1]
   refine qtk 4 23 ?_
   simp only [qz0,qz1]
   refine qtk 5 24 ?_
   simp only [qz0,qz1]
   refine qtk 6 25 ?_
   simp only [qz0,qz1]
   refine qtk 7 26 ?_
   simp only [qz0,qz1]
   refine qtk 8 27 ?_
   simp only [qz0,qz1]
   refine qtk 9 28 ?_
   simp only [qz0,qz1]
   refine qtk 10 29 ?_
   simp only [qz0,qz1]
   refine qtk 11 30 ?_
   simp only [qz0,qz1]
   refine qtk 12 31 ?_
   simp only [qz0,qz1]
   refine qtk 13 32 ?_
   simp only [qz0,qz1]
   refine qtk 14 33 ?_
   simp only [qz0,qz1]
   refine qtk 15 34 ?_
   simp only [qz0,qz1]
   refine qtk 16 35 ?_
   simp only [qz0,qz1]
   refine qone 17 fun K hK => ?_
   go_simp
   refine (HCL.out _ (Below.refl _ _).drew).mono ?_
   rintro e w2 ⟨mo2,rfl,hb2,hk2,hk1⟩
   have hHeld : (fun w' => w'.cell? ⟨t2,0,none⟩ = some (Value.map (some mb2)) /\ w'.cell? ⟨F i,0,none⟩ = some (Value.int .i64 x.n.id) /\ w'.cell? ⟨F i,1,none⟩ = some (Value.int .i64 x.n.kind) /\ w'.cell? ⟨F i,2,none⟩ = some (Value.int .i64 x.n.links) /\ w'.cell? ⟨F i,3,none⟩ = some (Value.int .i64 x.n.size) /\ w'.cell? ⟨F i,4,none⟩ = some (Value.int .u64 (x.n.til : Int)) /\ w'.cell? ⟨F i,5,none⟩ = some (Value.bool x.n.closed) /\ w'.cell? ⟨F i,6,none⟩ = some (Value.slice va vn vc) /\ w'.cell? ⟨F i,7,none⟩ = some (Value.map mo)) w2:=copy_cells hHeld HTL.out HFL.out hb2
   go_wp2_with fail
   refine hK.out _ _ (fun _ => hHeld) ?_
   clear hK K
   refine qtk 18 37 ?_
   simp only [qz0,qz1]
   refine qone 19 fun K hK => ?_
   go_simp
   have hba:=(Below.refl w2.heap.size w2).alloc (Nat.le_refl _) (.cells #[.int .i64 x.n.id,.int .i64 x.n.kind,.int .i64 x.n.links,.int .i64 x.n.size,.int .u64 (x.n.til : Int),.bool x.n.closed,.slice va vn vc,.map mo2] TItem)
   refine hK.out _ _ (fun _ => copy_cells hHeld (Nat.lt_of_lt_of_le HTL.out hb2.size) (Nat.lt_of_lt_of_le HFL.out hb2.size) hba) ?_
   clear hK K
   obtain ⟨w3,hr3,hT3,hM3⟩:=copy_put HT1.out hb2 hba (copy_item HOW.out hb2 hk2 hk1) HIT.out.1 HIT.out.2.1 HIT.out.2.2 (fun _ => Nat.le_refl _)
   refine qone 20 fun K hK => ?_
   refine step_mapput (by rfl) (.tmp 22) (.tmp 23) (.tmp 38) 186 rfl _ _ _ (by rfl) (by rfl) (by rfl) hr3 ?_
   refine hK.out _ _ (fun h => by simp at h) ?_
   clear hK K
   refine qdon ?_
   have hch : Chg (fun k => k = mb2) w1 w3:=(((Chg.of_below (Below.refl w1.heap.size w1).drew (fun k => k = mb2)).trans (Chg.of_below hb2 (fun k => k = mb2)) (fun _ _ h => h)).trans (Chg.of_below hba (fun k => k = mb2)) (fun _ _ h => h)).trans (turned_chg hM3) (fun _ _ h => h)
   have HF:=qh (aI hT3 hch)
   clear hT3 hch hM3 hba hb2 hk2 hk1 hHeld
   go_wp2_with fail
   go_roundw
   case rel =>
    obtain ⟨hT3,hch⟩:=HF.out
    obtain ⟨hrg,hrg1,hget,hx,hlk,hbw1,hlt1,hs1,hrlt⟩:=HRR.out
    have h2:=HMB.out
    have h3:=hmlt.out
    have h4:=HN.out
    have h5:=HR0.out
    have h6:=HS0.out
    (repeat apply Exists.intro)
    refine ⟨⟨_,cnt1,_,_,_,hrg1.kept hch.toGrown (by intro e; injection e with e; omega) (by intro e; injection e with e; omega),by rw [h2] at hT3; exact hT3,fun k => ?_,hbw1.trans (hch.below hbw1.size (fun k _ e => by omega)),by have:=hch.size; omega⟩,rfl⟩
    rw [getK_put,hget]
    by_cases hk : k = i
    ·subst hk
     rw [if_pos rfl,if_neg (by simp [same_dec]),hx]
    ·rw [if_neg hk]
     simp only [same_dec,decide_eq_false hk,Bool.not_false,Bool.and_true]
   case measure =>
    obtain ⟨hT3,hch⟩:=HF.out
    obtain ⟨hrg,hrg1,hget,hx,hlk,hbw1,hlt1,hs1,hrlt⟩:=HRR.out
    have h2:=HMB.out
    have h3:=hmlt.out
    have h4:=HN.out
    have h5:=HR0.out
    have h6:=HS0.out
    have hrg3:=hrg1.kept hch.toGrown (by intro e; injection e with e; omega) (by intro e; injection e with e; omega)
    rw [hrg3.left_eq,hrg.left_eq]
    omega
end
section
open Go.RowKit
theorem Recs.below {w w' : World} {a : Option Addr} {len cap : Nat} {ls : List Rc} (h : Recs w a len cap ls) (hb : Below w.heap.size w w') : Recs w' a len cap ls:=by
 obtain ⟨h1,h2,h3,h4⟩:=h
 refine ⟨h1,h2,h3,?_⟩
 rcases h4 with h4 | ⟨b,off,rfl,h5,h6⟩
 ·exact .inl h4
 ·refine .inr ⟨b,off,rfl,Nat.lt_of_lt_of_le h5 hb.size,fun i hi => ?_⟩
  obtain ⟨q0,q1,q2,q3,q4⟩:=h6 i hi
  exact ⟨(hb.cell (p:=⟨b,off + i * 3,none⟩) h5).trans q0,(hb.cell (p:=⟨b,off + i * 3 + 1,none⟩) h5).trans q1,(hb.cell (p:=⟨b,off + i * 3 + 2,none⟩) h5).trans q2,q3,q4.below hb⟩
theorem build_any (i f : Nat) (hi : i <= 65535) (hf : f <= 1099511627776) (w : World) (pa : Option Addr) (pc : Nat) (P : List UInt8) (hP : Bs w pa 32 pc P) (a : Option Addr) (len cap : Nat) (ls : List Rc) (hR : Recs w a len cap ls) (hl : 0 < len) (hl2 : len <= 1000)
  (hfit : fitsN 942 ls = len) (hseq : ∀ j (h : j < ls.length),ls[j].q = f + j) :
  Calls Tryz.prog 74 #[.int .i64 (i : Int),.int .u64 (f : Int),.slice pa 32 pc,.slice a len cap] w fun e w' => ∃ v,e = .returned (.tuple #[v,.int .i64 0]) /\ Own w' w.heap.size v (segBytes i f P ls) /\ Below w.heap.size w w':=by
 have hlen:=hR.1
 obtain ⟨hok,hall⟩:=fitsN_all ls 942 hR.ys_len (by rw [hfit,hlen])
 obtain ⟨gb,go,HAT⟩:=hR.at
 have HFI:=qh (fits_any a len cap ls w hR (by omega))
 rw [hfit] at HFI
 have HR:=qh hR
 have HOK:=qh hok
 have HSQ:=qh hseq
 have HL:=qh (aI hlen hall)
 have HP:=qh hP
 have h0 : ¬ (len = 0):=by omega
 have h0i : ¬ ((len : Int) = 0):=by omega
 have h0b : ((len : Int) == 0) = false:=by simpa using h0
 have e5 : ¬ (65535 : Int) < (i : Int):=by omega
 have e6 : ¬ (1099511627776 : Int) < (f : Int):=by omega
 have e7 : ¬ (i : Int) < 0:=by omega
 have hgb : ∃ g0 o0,Hid (a = some ⟨g0,o0,none⟩ /\ gb = g0 /\ go = o0):=⟨gb,go,qh ⟨(HAT.out hl).1,rfl,rfl⟩⟩
 clear hP hR hok hseq hfit hlen hall hgb
 go_enter Tryz.func74,Tryz.ntmps74
 go_wp2_with fail
 refine HFI.out.mono ?_
 rintro e w1 ⟨rfl,hb1⟩
 have hE1:=qh ((Ext.refl w).step hb1)
 clear hb1
 go_wp2_with fail
 go_loopw [44] (fun i wr => ∃ k : Nat,k <= len /\ i = .int .i64 (k : Int) /\ Ext w.heap.size w wr) (fun i _ => len - (intOf i).toNat)
 case atStart => exact ⟨0,by omega,rfl,hE1.out⟩
 case round =>
  obtain ⟨k,hk,rfl,hE⟩:=hrel
  clear hE1
  by_cases hlt : k < len
  ·obtain ⟨rfl,hgb,hcells⟩:=HAT.out (by omega)
   have hk2 : k < ls.length:=by rw [HL.out.1]; exact hlt
   have hc:=hcells k hk2
   have hro:=(HOK.out _ (List.getElem_mem hk2)).1
   have hsq:=HSQ.out k hk2
   clear hcells
   generalize ls[k]'hk2 = r at hc hro hsq
   obtain ⟨rk,rq,ra,rm,rcap,rys⟩:=r
   obtain ⟨hc0,hc1,hc2,hq,hB⟩:=hc
   simp only at hc0 hc1 hc2 hq hB hro hsq
   have c0:=(hE.1.cell (p:=⟨gb,go + k * 3,none⟩) hgb).trans hc0
   have c1:=(hE.1.cell (p:=⟨gb,go + k * 3 + 1,none⟩) hgb).trans hc1
   have c2:=(hE.1.cell (p:=⟨gb,go + k * 3 + 2,none⟩) hgb).trans hc2
   have e1 : (0 : Int) <= (k : Int):=by omega
   have e2 : (k : Int) < (len : Int):=by omega
   have e3 : IntKind.i64.wrap ((k : Int) + 1) = ((k + 1 : Nat) : Int):=by rw [IntWalk.i64_in _ (by omega)]; omega
   have e4 : IntKind.u64.wrap (k : Int) = (k : Int):=by simp [IntKind.wrap,IntKind.bits,IntKind.signed]; omega
   have e8 : IntKind.u64.wrap ((f : Int) + (k : Int)) = (rq : Int):=by simp [IntKind.wrap,IntKind.bits,IntKind.signed]; omega
   obtain ⟨k2,hk2'⟩:=qnm (k + 1)
   rw [<- hk2'] at e3
   have HK:=qh hk2'
   have hE0:=qh (hE.alloc (.cells #[.int .i64 rk,.int .u64 (rq : Int),.slice ra rm rcap] 69))
   clear hc0 hc1 hc2 hB hq hk2 hk2' hE hro hsq hk
   go_wp2_with fail
   go_roundw
   case rel => exact ⟨k2,by have:=HK.out; omega,rfl,hE0.out⟩
   case measure =>
    have hk2:=HK.out
    show len - (k2 : Int).toNat < len - (k : Int).toNat
    omega
  ·obtain rfl : k = len:=by omega
   clear hlt HAT HSQ HFI
   obtain ⟨hlen,hall⟩:=HL.out
   obtain ⟨AL,hAL⟩:=qnm ((allB ls).length)
   have hroot : ∀ x ∈ ls.map Rc.bytes,x.length <= 1000:=fun x hx => by
    obtain ⟨r,hr,rfl⟩:=List.mem_map.1 hx
    obtain ⟨h1,h2⟩:=HR.out.ys_len r hr |> fun h => aI h (HOK.out r hr)
    unfold Rc.bytes
    have:=h2.2.1
    rw [recBytes_length _ _ _ (by omega)]
    omega
   have HLV:=qh (leaves_any a k cap ls wr (HR.out.below hE.1) hl2 HOK.out)
   have HPr:=qh (HP.out.below hE.1)
   have hE1:=qh hE
   have HRT:=qh hroot
   have hAL2 : AL <= 942:=by omega
   obtain ⟨Z,hZ⟩:=qnm (942 - AL)
   have e9 : IntKind.i64.wrap (942 - (AL : Int)) = (Z : Int):=by rw [IntWalk.i64_in _ (by omega)]; omega
   have hmk : ∀ W,(Instr.makeSlice 30 (.int .i64 (Z : Int)) (.int .i64 (Z : Int))).run Tryz.prog W = .ok (.slice (some ⟨W.heap.size,0,none⟩) Z Z) (W.alloc (.cells (madeCells #[.int .u8 0] Z) TB)):=fun W => run_make_bytes Z (by omega) W
   have HZ:=qh (aI hAL (aI hZ hlen))
   clear hE hroot hlen hall hAL hZ HR HOK HP HL
   go_wp2_with fail
   refine HLV.out.mono ?_
   rintro e w2 ⟨v2,rfl,hO2,hb2⟩
   obtain ⟨la,lc,rfl,hLL2⟩:=hO2.ll (n:=k) (by rw [List.length_map]; exact HZ.out.2.2)
   have hE2:=qh (hE1.out.step hb2)
   have HP2:=qh (HPr.out.below hb2)
   have HLL2:=qh hLL2
   clear hO2 hLL2 hb2 hE1 HPr HLV
   go_wp2_with fail
   refine (concat_any k lc la _ w2 HLL2.out (by omega) (by have:=HZ.out.1; unfold allB at this; omega)).mono ?_
   rintro e w3 ⟨v3,rfl,ho3,hb3⟩
   obtain ⟨aa,ac,rfl,hBa⟩:=ho3.bsn (n:=AL) HZ.out.1.symm
   have hE3:=qh (hE2.out.step hb3)
   have HP3:=qh (HP2.out.below hb3)
   have HLL3:=qh (HLL2.out.below hb3)
   have HA3:=qh (show Bs w3 aa AL ac (allB ls) from hBa)
   clear ho3 hb3 hBa hE2 HP2 HLL2
   go_wp2_with fail
   refine (wnew_any w3).mono ?_
   rintro e w4 ⟨rfl,hW4,hb4⟩
   obtain ⟨q,hq⟩:=qnm w3.heap.size
   have hI4 : WI w3 w3.heap.size w3.heap.size w4 []:=⟨(Ext.refl w3).step hb4,none,hW4⟩
   have HQ:=qh hq
   rw [<- hq] at hI4 ⊢
   clear hW4 hb4 hq
   go_wp2_with fail
   refine (wshort_ok i hI4 (by omega) (by unfold big; decide)).mono ?_
   rintro e w5 ⟨rfl,hI5⟩
   clear hI4
   go_wp2_with fail
   refine (wlong_ok f hI5 (by simp [be_length]; unfold big; decide)).mono ?_
   rintro e w6 ⟨rfl,hI6⟩
   clear hI5
   go_wp2_with fail
   refine (wshort_ok k hI6 (by omega) (by simp [be_length]; unfold big; decide)).mono ?_
   rintro e w7 ⟨rfl,hI7⟩
   clear hI6
   go_wp2_with fail
   refine (wshort_ok AL hI7 (by omega) (by simp [be_length]; unfold big; decide)).mono ?_
   rintro e w8 ⟨rfl,hI8⟩
   clear hI7
   go_wp2_with fail
   refine (wraw_ok hI8 (hI8.1.bs HQ.out.symm HP3.out) (by simp [be_length]; unfold big; decide)).mono ?_
   rintro e w9 ⟨rfl,hI9⟩
   clear hI8
   have hB9 : Below w3.heap.size w3 w9:=by rw [<- HQ.out]; exact hI9.1.1
   have HRo:=qh (root_any k la lc (ls.map Rc.bytes) w9 (HLL3.out.below hB9) HRT.out (by omega))
   clear hB9
   go_wp2_with fail
   refine HRo.out.mono ?_
   rintro e w10 ⟨vr,rfl,hor,hbr⟩
   obtain ⟨ra,rc,rfl,hBr⟩:=hor.bsn (n:=32) (mroot_length _)
   have hI10:=hI9.below hbr
   have hPl:=HP3.out.1
   clear hor hbr hI9 HRo
   go_wp2_with fail
   refine (wraw_ok hI10 hBr (by simp [be_length,hPl]; unfold big; decide)).mono ?_
   rintro e w11 ⟨rfl,hI11⟩
   clear hI10 hBr
   obtain ⟨L11,hL11⟩:=qnm ((((((([] : List UInt8) ++ be i 2) ++ be f 8) ++ be k 2) ++ be AL 2) ++ P) ++ mroot (ls.map Rc.bytes))
   rw [<- hL11] at hI11
   have hN : L11.length = 78:=by rw [hL11]; simp [be_length,hPl,mroot_length]
   have HL11:=qh hL11
   have HN:=qh hN
   clear hL11 hPl
   go_wp2_with fail
   refine (wdone_ok hI11 (by rw [hN]; unfold big; decide)).mono ?_
   rintro e w12 ⟨da,dc,rfl,_,hBd,hI12⟩
   rw [hN] at hBd ⊢
   clear hI11 hN
   go_wp2_with fail
   refine (sum_any da 78 dc L11 w12 hBd).mono ?_
   rintro e w13 ⟨rfl,rfl⟩
   obtain ⟨C,hC⟩:=qnm (crcMore 0 L11)
   have hCl:=crcMore_lt 0 L11
   rw [<- hC] at hCl ⊢
   have HC:=qh hC
   clear hC hBd
   go_wp2_with fail
   refine (four_any C w12 hCl).mono ?_
   rintro e w14 ⟨vf,rfl,hof,hbf⟩
   obtain ⟨fa,fc,rfl,hBf⟩:=hof.bsn (n:=4) (be_length _ _)
   have hI14:=hI12.below hbf
   clear hof hbf hI12 hCl
   go_wp2_with fail
   refine (wraw_ok hI14 hBf (by rw [HN.out]; unfold big; decide)).mono ?_
   rintro e w15 ⟨rfl,hI15⟩
   clear hI14 hBf
   go_wp2_with fail
   refine (wraw_ok hI15 (hI15.1.bs HQ.out.symm HA3.out) (by rw [List.length_append,HN.out,be_length]; unfold big; omega)).mono ?_
   rintro e w16 ⟨rfl,hI16⟩
   clear hI15
   have hBz : Bs (w16.alloc (.cells (madeCells #[.int .u8 0] Z) TB)) (some ⟨w16.heap.size,0,none⟩) Z Z (List.replicate Z 0):=by
    have:=(Row.zero w16 Z (by unfold maxLen; have:=HZ.out.2.1; omega)).bs
    rwa [List.length_replicate] at this
   have HBz:=qh hBz
   have HI17:=qh (hI16.below ((Below.refl _ _).alloc (Nat.le_refl _) (.cells (madeCells #[.int .u8 0] Z) TB)))
   clear hBz hI16
   go_wp2_with fail
   refine (wraw_ok HI17.out HBz.out (by have:=HZ.out; simp only [List.length_append,HN.out,be_length]; unfold big; omega)).mono ?_
   rintro e w18 ⟨rfl,hI18⟩
   clear HI17 HBz
   go_wp2_with fail
   refine (wdone_ok hI18 (by have:=HZ.out; simp only [List.length_append,HN.out,be_length,List.length_replicate]; unfold big; omega)).mono ?_
   rintro e w19 ⟨za,zc,rfl,ho,_,hI19⟩
   obtain ⟨NN,hNN⟩:=qnm ((((L11 ++ be C 4) ++ allB ls) ++ List.replicate Z 0).length)
   rw [<- hNN] at ho ⊢
   clear hNN
   go_wp2_with fail
   go_ret2
   have hE19 : Ext w.heap.size w w19:=hE3.out.step (by rw [<- HQ.out]; exact hI19.1.1)
   refine ⟨_,rfl,?_,hE19.1⟩
   have hw:=ho.weaken (B:=w.heap.size) (Nat.le_trans hE3.out.2 (by rw [<- HQ.out]; exact hI18.1.2))
   have hfin : ((L11 ++ be C 4) ++ allB ls) ++ List.replicate Z 0 = segBytes i f P ls:=by
    obtain ⟨h1,h2,h3⟩:=HZ.out
    have hl:=HL11.out
    simp only [List.nil_append,List.append_assoc] at hl
    unfold segBytes segHead
    rw [<- h1,<- h2,h3,<- hl,<- HC.out]
    simp only [List.append_assoc]
   rw [<- hfin]
   exact hw
theorem genesis_any (a : Option Addr) (len cap : Nat) (xs : List UInt8) (w : World) (hB : Bs w a len cap xs) (hl : len <= 100000) :
  Calls Tryz.prog 34 #[.slice a len cap] w fun e w' => (∃ v,e = .returned v /\ Own w' w.heap.size v (sha (3 :: xs))) /\ Below w.heap.size w w':=by
 obtain ⟨w1,hw1⟩:=qnm (w.alloc (.cells #[.int .u8 3] TB))
 obtain ⟨w2,hw2⟩:=qnm (w1.alloc (.cells #[.slice (some ⟨w.heap.size,0,none⟩) 1 1,.slice a len cap] TBS))
 have hb1:=qba hw1
 have hb2:=qba hw2
 have hs1 : w1.heap.size = w.heap.size + 1:=by rw [hw1]; simp
 have h1 : Bs w1 (some ⟨w.heap.size,0,none⟩) 1 1 [3]:=by rw [hw1]; exact Bs.one w 3
 have hLL : LL w2 (some ⟨w.heap.size + 1,0,none⟩) 2 2 [[3],xs]:=⟨rfl,Nat.le_refl _,by unfold maxLen; omega,.inr ⟨w.heap.size + 1,0,rfl,by rw [hw2]; simp [hs1],fun i hi => by
  have hi' : i = 0 ∨ i = 1:=by simp at hi; omega
  rcases hi' with rfl | rfl
  ·exact ⟨some ⟨w.heap.size,0,none⟩,1,1,by rw [hw2,<- hs1,World.cell?_alloc_mark]; rfl,h1.below hb2⟩
  ·exact ⟨a,len,cap,by rw [hw2,<- hs1,World.cell?_alloc_mark]; rfl,(hB.below hb1).below hb2⟩⟩⟩
 have hxl:=hB.1
 have HC:=qh (concat_any 2 2 (some ⟨w.heap.size + 1,0,none⟩) [[3],xs] w2 hLL (by omega) (by simp; omega))
 have hfl : ([[3],xs] : List (List UInt8)).flatten = 3 :: xs:=by simp
 rw [hfl] at HC
 have HW:=qh (aI hw2 hw1)
 have HE:=qh (aI (hb1.trans (hb2.mono hb1.size)) (show w.heap.size <= w2.heap.size from Nat.le_trans hb1.size hb2.size))
 have HL:=qh (aI hxl hl)
 clear hb1 hb2 hs1 h1 hLL hw1 hw2 hB hfl hxl hl
 go_enter Tryz.func34,Tryz.ntmps34
 go_wp2_with (rw [<- HW.out.2]; rw [<- HW.out.1])
 refine HC.out.mono ?_
 rintro e w3 ⟨v,rfl,ho,hb3⟩
 obtain ⟨n,hn⟩ : ∃ n,(3 :: xs).length = n:=⟨_,rfl⟩
 obtain ⟨va,vc,rfl,hB3⟩:=ho.bsn hn
 have HS:=qh (shasum_any va n vc (3 :: xs) w3 hB3 (by have:=HL.out; simp at hn; omega))
 have H3:=qh (HE.out.1.trans (hb3.mono HE.out.2))
 have H4:=qh (Nat.le_trans HE.out.2 hb3.size)
 clear ho hn hB3 hb3
 go_wp2_with fail
 refine HS.out.mono ?_
 rintro e w4 ⟨v,rfl,ho,hb4⟩
 have HF:=qh (aI (ho.base H4.out) (H3.out.trans (hb4.mono H4.out)))
 clear ho hb4
 go_wp2_with fail
 go_ret
 exact ⟨⟨v,rfl,HF.out.1⟩,HF.out.2⟩
end
end Go.Proofs.YtabdcphioccgnaaGreatDoor
