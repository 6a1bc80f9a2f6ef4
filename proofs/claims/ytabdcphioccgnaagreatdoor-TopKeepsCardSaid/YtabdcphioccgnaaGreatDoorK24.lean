/- RecOwn; LogAt; LogDid; RecClone; SegRecs. -/
import Derived.Test.YtabdcphioccgnaaGreatDoorK12
import Derived.Test.YtabdcphioccgnaaGreatDoorK23
set_option maxRecDepth 100000
set_option maxHeartbeats 8000000
namespace Go.Proofs.YtabdcphioccgnaaGreatDoor
section
open Go.RowKit
abbrev TRec : TypeId:=69
abbrev TRecs : TypeId:=137
def rcs : List Rc -> List Value
 | [] => []
 | r :: rs => .int .i64 r.k :: .int .u64 (r.q : Int) :: .slice r.a r.m r.c :: rcs rs
theorem rcs_app : ∀ (rs qs : List Rc),rcs (rs ++ qs) = rcs rs ++ rcs qs
 | [],_ => rfl
 | r :: rs,qs => by simp only [List.cons_append,rcs,rcs_app rs qs]
theorem rcs_get : ∀ (rs : List Rc) (i : Nat) (h : i < rs.length),(rcs rs)[i * 3]? = some (.int .i64 rs[i].k) /\ (rcs rs)[i * 3 + 1]? = some (.int .u64 (rs[i].q : Int)) /\ (rcs rs)[i * 3 + 2]? = some (.slice rs[i].a rs[i].m rs[i].c)
 | r :: rs,0,_ => ⟨rfl,rfl,rfl⟩
 | r :: rs,i + 1,h => by
  have ih:=rcs_get rs i (by simpa using h)
  rw [show (i + 1) * 3 = i * 3 + 3 by omega]
  exact ih
def OwnR (w : World) (B : Nat) (v : Value) (rs : List Rc) : Prop :=
 w.ownsRow B TRec 3 v rs.length (rcs rs) /\ ∀ r ∈ rs,r.q < 18446744073709551616 /\ r.ys.length = r.m /\ Own w B (.slice r.a r.m r.c) r.ys
theorem OwnR.nil (w : World) (B : Nat) : OwnR w B (.slice none 0 0) []:=⟨World.ownsRow_nil w B TRec 3,fun r h => by simp at h⟩
theorem OwnR.below {w w' : World} {B : Nat} {v : Value} {rs : List Rc} (h : OwnR w B v rs) (hb : Below w.heap.size w w') : OwnR w' B v rs :=
 ⟨World.ownsRow.kept h.1 (row:=none) ⟨hb.os,hb.tape,hb.output,hb.size,fun k hk _ => hb.block k hk⟩ (by cases v.ownBlock <;> simp),fun r hr => ⟨(h.2 r hr).1,(h.2 r hr).2.1,(h.2 r hr).2.2.below hb⟩⟩
theorem OwnR.lt {w : World} {B : Nat} {v : Value} {rs : List Rc} (h : OwnR w B v rs) : ∀ k,v.ownBlock = some k -> B <= k /\ k < w.heap.size:=World.ownsRow.lt h.1
theorem OwnR.ty {w : World} {B : Nat} {v : Value} {rs : List Rc} (h : OwnR w B v rs) : ∀ k,v.ownBlock = some k -> ∃ C fr,w.heap[k]? = some (.cells C TRec fr):=by
 intro k hk
 rcases h.1.2 with ⟨rfl,_⟩ | ⟨g,cap,cur,rfl,_,hz,_⟩
 ·simp [Value.ownBlock] at hk
 ·have : g = k:=by simpa [Value.ownBlock] using hk
  subst this
  exact ⟨_,_,hz⟩
theorem Own.tyb {w : World} {B : Nat} {v : Value} {xs : List UInt8} (h : Own w B v xs) : ∀ k,v.ownBlock = some k -> ∃ C fr,w.heap[k]? = some (.cells C TB fr):=by
 intro k hk
 rcases h.parts with ⟨rfl,_⟩ | ⟨g,cap,rfl,_,hr⟩
 ·simp [Value.ownBlock] at hk
 ·have : g = k:=by simpa [Value.ownBlock] using hk
  subst this
  obtain ⟨cur,hz,_⟩:=hr
  exact ⟨_,_,hz⟩
theorem OwnR.recs {w : World} {B n : Nat} {v : Value} {rs : List Rc} (h : OwnR w B v rs) (hn : rs.length = n) : ∃ a cap,v = .slice a n cap /\ Recs w a n cap rs:=by
 subst hn
 rcases h.1.2 with ⟨rfl,h0⟩ | ⟨g,cap,cur,rfl,_,hz,h3,h4,h5,h6⟩
 ·exact ⟨none,0,by rw [h0],rfl,by omega,by unfold maxLen; omega,.inl h0⟩
 ·refine ⟨_,cap,rfl,rfl,h3,h4,.inr ⟨g,0,rfl,(Array.getElem?_eq_some_iff.1 hz).1,fun i hi => ?_⟩⟩
  obtain ⟨g0,g1,g2⟩:=rcs_get rs i hi
  have hget : ∀ j u,(rcs rs)[j]? = some u -> w.cell? ⟨g,j,none⟩ = some u:=fun j u hu => by
   rw [cells_at hz j]
   rw [<- h6] at hu
   have hj : j < rs.length * 3:=by
    have:=(List.getElem?_eq_some_iff.1 hu).1
    simp at this
    omega
   rw [List.getElem?_take,if_pos hj] at hu
   simpa using hu
  have hr:=h.2 _ (List.getElem_mem hi)
  obtain ⟨a2,c2,e2,hB2⟩:=hr.2.2.bsn hr.2.1
  injection e2 with e2 _ e3
  subst e2
  subst e3
  exact ⟨by rw [Nat.zero_add]; exact hget _ _ g0,by rw [Nat.zero_add]; exact hget _ _ g1,by rw [Nat.zero_add]; exact hget _ _ g2,hr.1,hB2⟩
theorem own_grown {w w' : World} {B : Nat} {v : Value} {xs : List UInt8} {row : Option Nat} (h : Own w B v xs) (hg : w.grownBy w' row) (hr : ∀ k,row = some k -> ∃ C fr,w.heap[k]? = some (.cells C TRec fr)) : Own w' B v xs:=by
 have ht:=h.tyb
 refine World.ownsRow.kept h hg ?_
 cases hv : v.ownBlock with
 | none => exact .inl rfl
 | some b =>
  refine .inr fun e => ?_
  obtain ⟨C,fr,h1⟩:=ht b hv
  obtain ⟨C2,fr2,h2⟩:=hr b (by first | exact e | exact e.symm)
  rw [h1] at h2; injection h2 with h2; injection h2 with _ h2; exact absurd h2 (by decide)
theorem infoTRec : (Tryz.prog.info? TRec).map (fun i => (i.zero,i.size,i.bytes)) = some (some (.agg #[.int .i64 0,.int .u64 0,.slice none 0 0]),3,40):=by kernel_rfl
theorem run_append_rc {w : World} (B : Nat) (v : Value) (rs : List Rc) (h : OwnR w B v rs) (r : Rc) (hq : r.q < 18446744073709551616) (hm : r.ys.length = r.m) (hr : Own w B (.slice r.a r.m r.c) r.ys) (ty : TypeId) (hlen : rs.length + 1 <= 1000000) (hbase : B <= w.heap.size) :
  ∃ v' w',(Builtin.append_ #[TRecs,TRecs] ty #[v,.slice (some ⟨w.heap.size,0,none⟩) 1 1]).run Tryz.prog (w.alloc (.cells #[.int .i64 r.k,.int .u64 (r.q : Int),.slice r.a r.m r.c] TRec)) = .ok v' w' /\ OwnR w' B v' (rs ++ [r]) /\
   (w.alloc (.cells #[.int .i64 r.k,.int .u64 (r.q : Int),.slice r.a r.m r.c] TRec)).grownBy w' v.ownBlock /\ (v'.ownBlock = v.ownBlock ∨ v'.ownBlock = some (w.heap.size + 1)):=by
 obtain ⟨i,hi,hz0,hz1,hz2⟩:=info_any infoTRec
 have hba:=(Below.refl _ w).alloc (Nat.le_refl _) (.cells #[.int .i64 r.k,.int .u64 (r.q : Int),.slice r.a r.m r.c] TRec)
 have h':=h.below hba
 have hty':=h'.ty
 obtain ⟨v',w',k1,k2,k3,_,k5⟩:=run_append_own_at (P:=Tryz.prog) (w.alloc (.cells #[.int .i64 r.k,.int .u64 (r.q : Int),.slice r.a r.m r.c] TRec)) B TRecs ty TRec i (.agg #[.int .i64 0,.int .u64 0,.slice none 0 0]) 3 40 Tryz.underlying137 hi hz0 hz1 hz2 rfl (by decide) v rs.length (rcs rs)
  h'.1 ⟨w.heap.size,0,none⟩ 1 1 [.int .i64 r.k,.int .u64 (r.q : Int),.slice r.a r.m r.c] (by simp) (fun j u hu => by
   have hj : j = 0 ∨ j = 1 ∨ j = 2:=by have:=(List.getElem?_eq_some_iff.1 hu).1; simp at this; omega
   rcases hj with rfl | rfl | rfl
   ·rw [show (⟨w.heap.size,0,none⟩ : Addr).add 0 = ⟨w.heap.size,0,none⟩ from rfl,World.cell?_alloc_mark]; simpa using hu
   ·rw [show (⟨w.heap.size,0,none⟩ : Addr).add 1 = ⟨w.heap.size,1,none⟩ from rfl,World.cell?_alloc_mark]; simpa using hu
   ·rw [show (⟨w.heap.size,0,none⟩ : Addr).add 2 = ⟨w.heap.size,2,none⟩ from rfl,World.cell?_alloc_mark]; simpa using hu) (by
   intro u hu
   simp at hu
   rcases hu with rfl | rfl | rfl <;> rfl) (by unfold maxLen; omega) (by omega) (by simp; omega)
 refine ⟨v',w',k1,⟨?_,fun x hx => ?_⟩,k3,?_⟩
 ·rw [rcs_app,List.length_append]
  exact k2
 ·rcases List.mem_append.1 hx with hx | hx
  ·exact ⟨(h'.2 x hx).1,(h'.2 x hx).2.1,own_grown (h'.2 x hx).2.2 k3 hty'⟩
  ·obtain rfl : x = r:=by simpa using hx
   exact ⟨hq,hm,own_grown (hr.below hba) k3 hty'⟩
 ·simpa using k5
end
section
open Go.RowKit
abbrev TLog : TypeId:=140
structure LogM where
 sealed : Nat
 head : List UInt8
 next : Nat
 wait : List Rc
def logC (d : Nat) (s p g : Int) (sealed : Nat) (hv : Value) (next : Nat) (wv : Value) : Array Value :=
 #[.pointer (some ⟨d,0,none⟩),.int .i64 s,.int .i64 p,.int .i64 g,.int .i64 (sealed : Int),hv,.int .u64 (next : Int),wv]
structure LogIn (w : World) (B l d : Nat) (s p g : Int) (hv wv : Value) (M : LogM) : Prop where
 cel : w.heap[l]? = some (.cells (logC d s p g M.sealed hv M.next wv) TLog (0,0))
 hd : Own w B hv M.head
 wt : OwnR w B wv M.wait
theorem LogIn.lt {w : World} {B l d : Nat} {s p g : Int} {hv wv : Value} {M : LogM} (h : LogIn w B l d s p g hv wv M) : l < w.heap.size:=(Array.getElem?_eq_some_iff.1 h.cel).1
theorem LogIn.below {w w' : World} {B l d : Nat} {s p g : Int} {hv wv : Value} {M : LogM} (h : LogIn w B l d s p g hv wv M) (hb : Below w.heap.size w w') : LogIn w' B l d s p g hv wv M :=
 ⟨(hb.block l h.lt).trans h.cel,h.hd.below hb,h.wt.below hb⟩
variable {w : World} {B l d : Nat} {s p g : Int} {hv wv : Value} {M : LogM}
theorem lnext_any (h : LogIn w B l d s p g hv wv M) (hn : M.next + M.wait.length <= 4611686018427387904) :
  Calls Tryz.prog 20 #[.pointer (some ⟨l,0,none⟩)] w fun e w' => e = .returned (.int .u64 ((M.next + M.wait.length : Nat) : Int)) /\ Below w.heap.size w w':=by
 obtain ⟨n,hn'⟩:=qnm M.wait.length
 obtain ⟨a,cap,rfl,_⟩:=h.wt.recs hn'.symm
 have c6 : w.cell? ⟨l,6,none⟩ = some (.int .u64 (M.next : Int)):=cells_at h.cel 6
 have c7 : w.cell? ⟨l,7,none⟩ = some (.slice a n cap):=cells_at h.cel 7
 rw [<- hn'] at hn ⊢
 obtain ⟨x,hx⟩:=qnm M.next
 rw [<- hx] at hn c6 ⊢
 have e1 : IntKind.u64.wrap (n : Int) = (n : Int):=IntWalk.u64_in _ (by omega)
 have e2 : IntKind.u64.wrap ((x : Int) + (n : Int)) = ((x + n : Nat) : Int):=by rw [IntWalk.u64_in _ (by omega)]; omega
 clear h hn' hx hn
 go_enter Tryz.func20,Tryz.ntmps20
 go_upto_region 1 with fail
 refine wp_tailb 11 (by kernel_rfl) (by kernel_rfl) rfl ?_
 simp only [List.take_succ_cons,List.take_zero,List.drop_succ_cons,List.drop_zero,List.map_cons,List.map_nil,bare]
 repeat still_step
 refine wpStill_nil ?_
 go_wp2_with fail
 go_ret
 exact ⟨rfl,(Below.refl _ _).drew⟩
theorem lsealed_any (h : LogIn w B l d s p g hv wv M) :
  Calls Tryz.prog 79 #[.pointer (some ⟨l,0,none⟩)] w fun e w' => e = .returned (.int .i64 (M.sealed : Int)) /\ w' = w:=by
 have c4 : w.cell? ⟨l,4,none⟩ = some (.int .i64 (M.sealed : Int)):=cells_at h.cel 4
 clear h
 go_enter Tryz.func79,Tryz.ntmps79
 go_wp2_with fail
 go_ret
 exact ⟨rfl,rfl⟩
theorem lpending_any (h : LogIn w B l d s p g hv wv M) :
  Calls Tryz.prog 78 #[.pointer (some ⟨l,0,none⟩)] w fun e w' => e = .returned (.int .i64 (M.wait.length : Int)) /\ w' = w:=by
 obtain ⟨n,hn'⟩:=qnm M.wait.length
 obtain ⟨a,cap,rfl,_⟩:=h.wt.recs hn'.symm
 have c7 : w.cell? ⟨l,7,none⟩ = some (.slice a n cap):=cells_at h.cel 7
 rw [<- hn']
 clear h hn'
 go_enter Tryz.func78,Tryz.ntmps78
 go_wp2_with fail
 go_ret
 exact ⟨rfl,rfl⟩
theorem lroom_any (h : LogIn w B l d s p g hv wv M) (hg : 0 <= g /\ g <= 65535) (hs : M.sealed <= 65535) :
  Calls Tryz.prog 72 #[.pointer (some ⟨l,0,none⟩)] w fun e w' => e = .returned (.int .i64 (g - (M.sealed : Int))) /\ Below w.heap.size w w':=by
 have c3 : w.cell? ⟨l,3,none⟩ = some (.int .i64 g):=cells_at h.cel 3
 have c4 : w.cell? ⟨l,4,none⟩ = some (.int .i64 (M.sealed : Int)):=cells_at h.cel 4
 obtain ⟨x,hx⟩:=qnm M.sealed
 rw [<- hx] at hs c4 ⊢
 have e1 : IntKind.i64.wrap (g - (x : Int)) = g - (x : Int):=IntWalk.i64_in _ (by omega)
 clear h hx hs hg
 go_enter Tryz.func72,Tryz.ntmps72
 go_upto_region 1 with fail
 refine wp_tailb 10 (by kernel_rfl) (by kernel_rfl) rfl ?_
 simp only [List.take_succ_cons,List.take_zero,List.drop_succ_cons,List.drop_zero,List.map_cons,List.map_nil,bare]
 repeat still_step
 refine wpStill_nil ?_
 go_wp2_with fail
 go_ret
 exact ⟨rfl,(Below.refl _ _).drew⟩
theorem lhead_any (h : LogIn w B l d s p g hv wv M) (hl : M.head.length <= 1000) :
  Calls Tryz.prog 80 #[.pointer (some ⟨l,0,none⟩)] w fun e w' => (∃ v,e = .returned v /\ Own w' w.heap.size v M.head) /\ Below w.heap.size w w':=by
 obtain ⟨a,cap,rfl,hB⟩:=h.hd.bs
 have c5 : w.cell? ⟨l,5,none⟩ = some (.slice a M.head.length cap):=cells_at h.cel 5
 have HC:=qh (clone_any a M.head.length cap M.head w hB (by unfold big; omega))
 obtain ⟨n,hn⟩:=qnm M.head.length
 rw [<- hn] at HC c5
 clear h hB hl hn
 go_enter Tryz.func80,Tryz.ntmps80
 go_wp2_with fail
 refine HC.out.mono ?_
 rintro e w1 ⟨v,rfl,ho,hb⟩
 have HF:=qh (aI ho hb)
 clear ho hb
 go_wp2_with fail
 go_ret
 exact ⟨⟨v,rfl,HF.out.1⟩,HF.out.2⟩
end
section
open Go.RowKit Go.ChangeMaps Go.MapKept
theorem own_log {W W' : World} {l : Nat} {v : Value} {xs : List UInt8} {B : Nat} {C : Array Value} (hz : W.heap[l]? = some (.cells C TLog (0,0))) (hc : Chg (fun k => k = l) W W') (ho : Own W B v xs) : Own W' B v xs:=hc.own ho (fun k hk e => by
  obtain ⟨C2,fr,h2⟩:=ho.tyb k hk
  rw [e,hz] at h2; injection h2 with h2; injection h2 with _ h2; exact absurd h2 (by decide))
theorem ownr_log {W W' : World} {l : Nat} {v : Value} {rs : List Rc} {B : Nat} {C : Array Value} (hz : W.heap[l]? = some (.cells C TLog (0,0))) (hc : Chg (fun k => k = l) W W') (ho : OwnR W B v rs) : OwnR W' B v rs:=by
  refine ⟨?_,fun r hr => ⟨(ho.2 r hr).1,(ho.2 r hr).2.1,own_log hz hc (ho.2 r hr).2.2⟩⟩
  refine World.ownsRow.kept ho.1 (row:=some l) ⟨hc.os,hc.tape,hc.output,hc.size,fun k hk hne => hc.block k hk (fun e => hne (by rw [e]))⟩ ?_
  cases hv : v.ownBlock with
  | none => exact .inl rfl
  | some b =>
   refine .inr fun e => ?_
   injection e with e
   obtain ⟨C2,fr,h2⟩:=ho.ty b hv
   rw [e,hz] at h2; injection h2 with h2; injection h2 with _ h2; exact absurd h2 (by decide)
variable {w : World} {B l d : Nat} {s p g : Int} {hv wv : Value} {M : LogM}
theorem did_any (h : LogIn w B l d s p g hv wv M) (hs : M.sealed <= 65535) (i f c : Nat) (n : Int) (pa ra : Option Addr) (pc rc : Nat) (P R : List UInt8) (hi : i <= 65535) (hc : c <= 65535) (hf : f <= 4611686018427387904) (B1 : Nat) (hP : Own w B1 (.slice pa 32 pc) P) (hPl : P.length = 32) (hR : Own w B1 (.slice ra 32 rc) R) (hRl : R.length = 32) (hB : B <= w.heap.size) :
  Calls Tryz.prog 77 #[.pointer (some ⟨l,0,none⟩),.agg (hdCells i f c n pa pc ra rc)] w fun e w' => e = .returned (.tuple #[]) /\ (∃ hv',LogIn w' B l d s p g hv' wv ⟨M.sealed + 1,sha (hdRow i f c P R),f + c,M.wait⟩) /\ Chg (fun k => k = l) w w':=by
 obtain ⟨w1,hw1⟩:=qnm (w.alloc (.cells (hdCells i f c n pa pc ra rc) 144))
 have hb1:=qba hw1
 have hz1 : w1.heap[w.heap.size]? = some (.cells (hdCells i f c n pa pc ra rc) 144 (0,0)):=by rw [hw1]; exact heap_alloc_new w _
 have h1:=h.below hb1
 have c4 : w1.cell? ⟨l,4,none⟩ = some (.int .i64 (M.sealed : Int)):=cells_at h1.cel 4
 have f4:=frz_of h1.cel 4
 have hN : l < w.heap.size:=h.lt
 -- the count
 obtain ⟨x,hx⟩:=qnm M.sealed
 obtain ⟨x2,hx2⟩:=qnm (x + 1)
 obtain ⟨fc,hfc⟩:=qnm (f + c)
 obtain ⟨w2,hw2⟩:=qnm (w1.setCell ⟨l,4,none⟩ (.int .i64 (x2 : Int)))
 have hc2 : Chg (fun k => k = l) w1 w2:=by rw [hw2]; exact chg_set w1 l 4 _
 have hz2 : w2.heap[l]? = some (.cells (logC d s p g x2 hv M.next wv) TLog (0,0)):=by
  rw [hw2,setCell_heap h1.cel]; rfl
 have hP2:=own_log h1.cel hc2 (hP.below hb1)
 have hR2:=own_log h1.cel hc2 (hR.below hb1)
 have hW2:=ownr_log h1.cel hc2 h1.wt
 have hs2 : w1.heap.size = w.heap.size + 1:=by rw [hw1]; simp
 have hsz2 : w2.heap.size = w.heap.size + 1:=by rw [hw2]; simp [World.setCell,hs2]
 have hzN : w2.heap[w.heap.size]? = some (.cells (hdCells i f c n pa pc ra rc) 144 (0,0)):=(hc2.block _ (by omega) (by omega)).trans hz1
 have e4 : IntKind.i64.wrap ((x : Int) + 1) = (x2 : Int):=by rw [IntWalk.i64_in _ (by omega)]; omega
 have e6 : IntKind.u64.wrap (c : Int) = (c : Int):=IntWalk.u64_in _ (by omega)
 have e7 : IntKind.u64.wrap ((f : Int) + (c : Int)) = (fc : Int):=by rw [IntWalk.u64_in _ (by omega)]; omega
 obtain ⟨pa2,pc2,ep,hbP⟩:=hP2.bsn hPl
 obtain ⟨ra2,rc2,er,hbR⟩:=hR2.bsn hRl
 injection ep with ep1 _ ep2
 injection er with er1 _ er2
 rw [<- ep1,<- ep2] at hbP
 rw [<- er1,<- er2] at hbR
 have HSL:=qh (segseal_any i f c n pa ra pc rc P R w2 hi hc hbP hbR)
 obtain ⟨y,hy⟩:=qnm (sha (hdRow i f c P R))
 rw [<- hy] at HSL ⊢
 rw [<- hx] at c4 ⊢
 rw [<- hx2,<- hfc]
 obtain ⟨N,hN'⟩:=qnm w.heap.size
 rw [<- hN'] at hzN hN hsz2
 have n0 : w2.cell? ⟨N,0,none⟩ = some (.int .i64 (i : Int)):=cells_at hzN 0
 have n1 : w2.cell? ⟨N,1,none⟩ = some (.int .u64 (f : Int)):=cells_at hzN 1
 have n2 : w2.cell? ⟨N,2,none⟩ = some (.int .i64 (c : Int)):=cells_at hzN 2
 have n3 : w2.cell? ⟨N,3,none⟩ = some (.int .i64 n):=cells_at hzN 3
 have n4 : w2.cell? ⟨N,4,none⟩ = some (.slice pa 32 pc):=cells_at hzN 4
 have n5 : w2.cell? ⟨N,5,none⟩ = some (.slice ra 32 rc):=cells_at hzN 5
 have HW:=qh (aI hw1 (aI hw2 hN'))
 have HZ:=qh (aI hz2 (aI hzN (aI hN hsz2)))
 have HK:=qh (aI hW2 (aI hb1 (aI hc2 hB)))
 clear h hP hR hz1 h1 hb1 hw1 hw2 hz2 hN hc2 hW2 hP2 hR2 hs2 hsz2 hzN hbP hbR hN' hx hy hs hi hc hf hB hPl hRl ep1 ep2 er1 er2 hx2 hfc
 unfold hdCells at HW HSL
 unfold hdCells
 go_enter Tryz.func77,Tryz.ntmps77
 go_upto_region 1 with fail
 rw [<- HW.out.1,<- HW.out.2.2]
 go_upto_region 2 with fail
 rw [<- HW.out.2.1]
 clear c4 f4
 go_wp2_with fail
 refine HSL.out.mono ?_
 rintro e w3 ⟨v,rfl,ho,hb3⟩
 obtain ⟨ym,hym⟩ : ∃ ym,y.length = ym:=⟨_,rfl⟩
 obtain ⟨va,vc,rfl,_⟩:=ho.bsn hym
 have hz3:=(hb3.block l (by have:=HZ.out.2.2.2; have:=HZ.out.2.2.1; (try simp only); omega)).trans HZ.out.1
 have f5:=frz_of hz3 5
 have c5 : w3.cell? ⟨l,5,none⟩ = some hv:=cells_at hz3 5
 have c6 : w3.cell? ⟨l,6,none⟩ = some (.int .u64 (M.next : Int)):=cells_at hz3 6
 have hz4:=setCell_heap (i:=5) hz3 (.slice va ym vc)
 have f6:=frz_of hz4 6
 have hz5:=setCell_heap (i:=6) hz4 (.int .u64 (fc : Int))
 have m1:=(hb3.cell (p:=⟨N,1,none⟩) (by have:=HZ.out.2.2.2; have:=HZ.out.2.2.1; (try simp only); omega)).trans n1
 have m2:=(hb3.cell (p:=⟨N,2,none⟩) (by have:=HZ.out.2.2.2; have:=HZ.out.2.2.1; (try simp only); omega)).trans n2
 have hNl : N ≠ l:=by have:=HZ.out.2.2.1; omega
 have m1' : (w3.setCell ⟨l,5,none⟩ (.slice va ym vc)).cell? ⟨N,1,none⟩ = some (.int .u64 (f : Int)):=((chg_set w3 l 5 (.slice va ym vc)).cell (by have:=HZ.out.2.2.2; have:=HZ.out.2.2.1; (try simp only); have:=hb3.size; omega) hNl).trans m1
 have m2' : (w3.setCell ⟨l,5,none⟩ (.slice va ym vc)).cell? ⟨N,2,none⟩ = some (.int .i64 (c : Int)):=((chg_set w3 l 5 (.slice va ym vc)).cell (by have:=HZ.out.2.2.2; have:=HZ.out.2.2.1; (try simp only); have:=hb3.size; omega) hNl).trans m2
 have hc4:=chg_set w3 l 5 (.slice va ym vc)
 have hc5:=chg_set (w3.setCell ⟨l,5,none⟩ (.slice va ym vc)) l 6 (.int .u64 (fc : Int))
 have hW5:=ownr_log hz4 hc5 (ownr_log hz3 hc4 (HK.out.1.below hb3))
 have hv5:=own_log hz4 hc5 (own_log hz3 hc4 ho)
 have hch : Chg (fun k => k = l) w ((w3.setCell ⟨l,5,none⟩ (.slice va ym vc)).setCell ⟨l,6,none⟩ (.int .u64 (fc : Int))) :=
  ((((Chg.of_below HK.out.2.1 (fun k => k = l)).trans HK.out.2.2.1 (fun _ _ h => h)).step hb3).trans hc4 (fun _ _ h => h)).trans hc5 (fun _ _ h => h)
 have HF:=qh (aI hz5 (aI hW5 (aI hv5 (aI hch (aI hb3 HK.out.2.2.2)))))
 clear hym hz3 hz4 hz5 hc4 hc5 hW5 hv5 hch hb3 ho n0 n1 n2 n3 n4 n5 hNl
 go_wp2_with fail
 refine bodyPost_end (results_none rfl _ _ _) rfl ?_
 obtain ⟨k1,k2,k3,k4,k5,k6⟩:=HF.out
 exact ⟨rfl,⟨_,k1,k3.base (by have:=HZ.out.2.2.2; have:=HW.out.2.2; omega),k2⟩,k4⟩
end
section
open Go.RowKit Go.ChangeMaps Go.MapKept
theorem rcs_one : ∀ (rs : List Rc),∀ u ∈ rcs rs,u.oneCell' = true
 | [],u,h => by simp [rcs] at h
 | r :: rs,u,h => by
  simp only [rcs,List.mem_cons] at h
  rcases h with rfl | rfl | rfl | h
  ·rfl
  ·rfl
  ·rfl
  ·exact rcs_one rs u h
theorem rclone_any {B : Nat} {v : Value} {rs : List Rc} (w : World) (h : OwnR w B v rs) (hn : rs.length <= 100000) :
  Calls Tryz.prog 71 #[v] w fun e w' => ∃ v',e = .returned v' /\ w'.ownsRow w.heap.size TRec 3 v' rs.length (rcs rs) /\ Below w.heap.size w w':=by
 obtain ⟨i,hi,hz0,hz1,hz2⟩:=info_any infoTRec
 have hl:=h.1.1
 have hcell:=h.1
 rcases h.1.2 with ⟨rfl,h4⟩ | ⟨g,cap,cur,rfl,h5,h6,h7⟩
 ·obtain rfl:=List.length_eq_zero_iff.1 h4
  refine (AnyE.slices_Clone_nil Tryz.cloneR 0 0 w).mono ?_
  rintro e w' ⟨rfl,hw⟩
  exact ⟨_,rfl,World.ownsRow_nil _ _ _ _,by rw [hw]; exact Below.refl _ _⟩
 ·refine (AnyE.slices_Clone Tryz.cloneR i _ 3 40 hi hz0 hz1 hz2 rfl (by decide) (fun w => Tryz.sizeOf69 w) g 0 rs.length cap (rcs rs) w hl (by unfold maxLen; omega) (by omega) (fun j u hu => ?_) (rcs_one rs)).mono ?_
  ·have hj : j < (rcs rs).length:=by
    rcases Nat.lt_or_ge j (rcs rs).length with h | h
    ·exact h
    ·rw [List.getElem?_eq_none h] at hu; cases hu
   rw [Nat.zero_add,World.ownsRow.cellAt (size:=3) hcell j (by omega)]
   exact hu
  ·rintro e w' ⟨v',rfl,ho,_,hb⟩
   exact ⟨v',rfl,ho,hb⟩
end
section
open Go.RowKit
theorem wpList_append_run {w w' : World} {ops : Array Oper} {rest : List Oper} {o : Oper} {a : Act} {Q : Exit -> Act -> World -> Prop} (hgd : o.guard = none) (s x : Operand) (t : TypeId)
  (ho : o.op = .call { callee:=.builtin .append,args:=#[s,x],argTypes:=#[t,t] }) (v u v' : Value) (hs : a.eval s = v) (hx : a.eval x = u)
  (hr : (Builtin.append_ #[t,t] o.type #[v,u]).run Tryz.prog w = .ok v' w') (h : wpList Tryz.prog ops Q rest (a.put o.dst v') w') : wpList Tryz.prog ops Q (o :: rest) a w :=
 wpList_plain hgd fun _ hK => by
  unfold Oper.wp execOp
  simp only [ho,resolve,invoke,builtin,Sem.run_bind,Sem.run_pure,Result.andThen_ok,List.map_toArray,List.map_cons,List.map_nil,hs,hx,hr]
  exact hK _ _ h
def Rc.core (r : Rc) : Int × Nat × List UInt8:=(r.k,r.q,r.ys)
theorem allB_cons (r : Rc) (rs : List Rc) : allB (r :: rs) = r.bytes ++ allB rs:=by simp [allB]
theorem OwnR.grownTo {w : World} {B : Nat} {v : Value} {rs : List Rc} (h : OwnR w B v rs) {B' : Nat} (hB : B' <= B) : OwnR w B' v rs:=by
 refine ⟨⟨h.1.1,?_⟩,fun r hr => ⟨(h.2 r hr).1,(h.2 r hr).2.1,(h.2 r hr).2.2.base hB⟩⟩
 rcases h.1.2 with h4 | ⟨g,cap,cur,h5,h6,h7⟩
 ·exact .inl h4
 ·exact .inr ⟨g,cap,cur,h5,Nat.le_trans hB h6,h7⟩
theorem records_any (a : Option Addr) (len cap : Nat) (ls : List Rc) (w : World) (i f : Nat) (n : Int) (pa ra : Option Addr) (pc rc : Nat) (hB : Bs w a len cap (allB ls)) (hl : len <= 1000) (hok : ∀ r ∈ ls,RecOk r.k r.q r.ys.length) (hseq : ∀ j (h : j < ls.length),ls[j].q = f + j) (hf : f <= 4611686018427387904) (hll : ls.length <= 1000) :
  Calls Tryz.prog 149 #[.slice a len cap,.agg (hdCells i f ls.length n pa pc ra rc)] w fun e w' => ∃ v ls',e = .returned (.tuple #[v,.bool true]) /\ OwnR w' w.heap.size v ls' /\ ls'.map Rc.core = ls.map Rc.core /\ Below w.heap.size w w':=by
 obtain ⟨c,hc⟩:=qnm ls.length
 rw [<- hc] at hll ⊢
 have HX:=qh (aI hok (aI hseq (aI hc hB)))
 obtain ⟨H,hH⟩:=qnm w.heap.size
 obtain ⟨w0,hw0⟩:=qnm (w.alloc (.cells (hdCells i f c n pa pc ra rc) 144))
 have hb0:=qba hw0
 have hz0 : w0.heap[w.heap.size]? = some (.cells (hdCells i f c n pa pc ra rc) 144 (0,0)):=by rw [hw0]; exact heap_alloc_new w _
 have hk : ∀ j,w0.cell? ⟨w.heap.size,j,none⟩ = (hdCells i f c n pa pc ra rc)[j]?:=fun j => by rw [hw0]; exact cell_new _ _ _ _
 have c1 : w0.cell? ⟨w.heap.size,1,none⟩ = some (.int .u64 (f : Int)):=hk 1
 have c2 : w0.cell? ⟨w.heap.size,2,none⟩ = some (.int .i64 (c : Int)):=hk 2
 have hHl : H < w0.heap.size:=by rw [hw0,hH]; simp
 rw [<- hH] at c1 c2
 have HW0:=qh (aI hw0 (aI hb0 (aI hH hHl)))
 have HF:=qh hf
 clear hok hseq hc hB hw0 hb0 hz0 hk hf
 unfold hdCells at HW0 ⊢
 go_enter Tryz.func149,Tryz.ntmps149
 go_upto_region 1 with fail
 rw [<- HW0.out.1,<- hH]
 have HH:=qh hH
 clear hH
 have HC:=qh (aI c1 c2)
 go_wp2_with fail
 go_loopw [0,6,7,9,10,13] (fun b out _ _ _ k wr => ∃ (j m cp : Nat) (ad : Option Addr) (ls' : List Rc),j <= c /\ k = .int .i64 (j : Int) /\ b = .slice ad m cp /\ Bs w ad m cp (allB (ls.drop j)) /\ m <= 1000 /\ OwnR wr w0.heap.size out ls' /\ ls'.map Rc.core = (ls.take j).map Rc.core /\ Below w.heap.size w wr /\ Below w0.heap.size w0 wr) (fun _ _ _ _ _ k _ => c - (intOf k).toNat)
 case atStart =>
  exact ⟨0,len,cap,a,[],Nat.zero_le _,rfl,rfl,by simpa using HX.out.2.2.2,hl,OwnR.nil _ _,rfl,HW0.out.2.1,Below.refl _ _⟩
 case round =>
  obtain ⟨j,m,cp,ad,ls',hj,rfl,rfl,hB,hm,hO,hco,hbw,hbw0⟩:=hrel
  have hcc:=HX.out.2.2.1
  have c1:=(hbw0.cell (p:=⟨H,1,none⟩) HW0.out.2.2.2).trans HC.out.1
  by_cases hlt : j < c
  ·have hjl : j < ls.length:=by rw [<- hcc]; exact hlt
   have hdr:=List.drop_eq_getElem_cons hjl
   have htk:=List.take_append_getElem hjl
   have hro:=HX.out.1 _ (List.getElem_mem hjl)
   have hsq:=HX.out.2.1 j hjl
   generalize ls[j]'hjl = r at hdr htk hro hsq
   obtain ⟨rk,rq,ra',rm,rcap,ys⟩:=r
   simp only at hro hsq
   obtain ⟨K,rfl⟩ : ∃ K : Nat,rk = (K : Int):=⟨rk.toNat,by have:=hro.2.2; omega⟩
   have hyl : ys.length <= 65535:=by have:=hro.2.1; omega
   have hby : Rc.bytes ⟨(K : Int),rq,ra',rm,rcap,ys⟩ = recBytes K rq ys:=rfl
   rw [hdr,allB_cons,hby] at hB
   have hrl:=recBytes_length K rq ys hyl
   obtain ⟨hw1,hw2,hw3,hw4,hw5⟩:=recWhy_ok K rq ys (allB (ls.drop (j + 1))) hro
   have HD:=qh (recdec_any ad m cp _ wr (hB.below hbw) (by unfold big; omega))
   have hml:=hB.1
   rw [List.length_append,hrl] at hml
   obtain ⟨z,hz⟩:=qnm (15 + ys.length)
   have hzm : z <= m:=by omega
   have hBd:=hB.drop hzm
   rw [List.drop_left' (by rw [hrl,hz])] at hBd
   obtain ⟨ad2,had2⟩ : ∃ ad2,(if cp = z then ad else ad.map (·.add z)) = ad2:=⟨_,rfl⟩
   rw [had2] at hBd
   obtain ⟨m2,hm2⟩:=qnm (m - z)
   obtain ⟨cp2,hcp2⟩:=qnm (cp - z)
   rw [<- hm2,<- hcp2] at hBd
   have hcl : ls'.length = j:=by
    have:=congrArg List.length hco
    simp only [List.length_map,List.length_take] at this
    omega
   obtain ⟨oa,oc,rfl,_⟩:=hO.recs hcl
   have hE : Calls Tryz.prog 202 #[.slice ad m cp] wr fun e w' => (∃ v,e = .returned (.tuple #[.agg #[.int .i64 (K : Int),.int .u64 (rq : Int),v],.int .i64 (z : Int),.int .i64 0]) /\ Own w' wr.heap.size v ys) /\ Below wr.heap.size wr w':=by
    refine HD.out.mono ?_
    rintro e w' ⟨hp,hb⟩
    refine ⟨?_,hb⟩
    rcases hp with ⟨_,v,he,ho⟩ | ⟨hn,_⟩
    ·rw [hw2,hw3,hw5] at he
     rw [hw4] at ho
     refine ⟨v,?_,ho⟩
     rw [he]
     unfold recV
     rw [show ((11 + ys.length : Nat) : Int) + 4 = (z : Int) by omega]
    ·exact absurd hw1 hn
   have HE:=qh hE
   obtain ⟨ym,hym⟩ : ∃ ym,ys.length = ym:=⟨_,rfl⟩
   have hjf : rq = f + j:=hsq
   have hqb : rq <= 4611686018427388904:=by have:=HF.out; omega
   have HR:=qh (aI hym (aI htk (aI hBd (aI hcl (aI hco (aI hO (aI hbw (aI hbw0 (aI hB (aI hml hm2))))))))))
   have HJF:=qh hjf
   have e1 : (0 : Int) <= (j : Int):=by omega
   have e2 : (j : Int) < (c : Int):=by omega
   obtain ⟨j2,hj2⟩:=qnm (j + 1)
   have e3 : IntKind.i64.wrap ((j : Int) + 1) = (j2 : Int):=by rw [IntWalk.i64_in _ (by omega)]; omega
   have e4 : IntKind.u64.wrap (j : Int) = (j : Int):=IntWalk.u64_in _ (by omega)
   have e5 : IntKind.u64.wrap ((f : Int) + (j : Int)) = (rq : Int):=by rw [IntWalk.u64_in _ (by omega)]; omega
   have hmm : m2 + z = m:=by omega
   have HJ:=qh (aI hj2 hmm)
   have hcpl : m <= cp:=hB.2.1
   have hcpm : cp <= maxLen:=hB.2.2.1
   have hcp2' : cp2 + z = cp:=by omega
   clear hdr htk hro hsq hB hby hrl hw1 hw2 hw3 hw4 hw5 HD hml hBd hcl hco hO hbw hbw0 hcc hjl hE hym hjf hj2 hj hyl hz
   go_wp2_with fail
   refine HE.out.mono ?_
   rintro e w1 ⟨⟨v,rfl,ho⟩,hb1⟩
   obtain ⟨va,vc,rfl,_⟩:=ho.bsn HR.out.1
   obtain ⟨w2,hw2⟩:=qnm (w1.alloc (.cells #[.int .i64 (K : Int),.int .u64 (rq : Int),.slice va ym vc] TRec))
   obtain ⟨hym,htk,hBd,hcl,hco,hO,hbw,hbw0,_⟩:=HR.out
   have hb2:=qba hw2
   have hb12 : Below wr.heap.size wr w2:=hb1.trans (hb2.mono hb1.size)
   have c1:=(hb12.cell (p:=⟨H,1,none⟩) (Nat.lt_of_lt_of_le HW0.out.2.2.2 hbw0.size)).trans c1
   obtain ⟨M1,hM1⟩:=qnm w1.heap.size
   have hz2 : w2.heap[M1]? = some (.cells #[.int .i64 (K : Int),.int .u64 (rq : Int),.slice va ym vc] TRec (0,0)):=by rw [hw2,hM1]; exact heap_alloc_new w1 _
   have d0 : w2.cell? ⟨M1,0,none⟩ = some (.int .i64 (K : Int)):=cells_at hz2 0
   have d1 : w2.cell? ⟨M1,1,none⟩ = some (.int .u64 (rq : Int)):=cells_at hz2 1
   have d2 : w2.cell? ⟨M1,2,none⟩ = some (.slice va ym vc):=cells_at hz2 2
   obtain ⟨v',w4,hrun,hO4,hg4,_⟩:=run_append_rc (w:=w2) w0.heap.size (.slice oa j oc) ls' (hO.below hb12) ⟨(K : Int),rq,va,ym,vc,ys⟩ (show rq < 18446744073709551616 by omega) hym ((ho.below hb2).base hbw0.size) TRecs (by omega) (hbw0.trans (hb12.mono hbw0.size)).size
   have hba3 : Below w2.heap.size w2 (w2.alloc (.cells #[.int .i64 (K : Int),.int .u64 (rq : Int),.slice va ym vc] TRec)):=(Below.refl _ _).alloc (Nat.le_refl _) _
   have hlt0:=hO.lt
   have H4:=qh (show OwnR w4 w0.heap.size v' (ls' ++ [⟨(K : Int),rq,va,ym,vc,ys⟩]) /\ Below w.heap.size w w4 /\ Below w0.heap.size w0 w4 from by
    have hw3 : Below w.heap.size w (w2.alloc (.cells #[.int .i64 (K : Int),.int .u64 (rq : Int),.slice va ym vc] TRec)):=(hbw.trans (hb12.mono hbw.size)).trans (hba3.mono (hbw.trans (hb12.mono hbw.size)).size)
    have hw03 : Below w0.heap.size w0 (w2.alloc (.cells #[.int .i64 (K : Int),.int .u64 (rq : Int),.slice va ym vc] TRec)):=(hbw0.trans (hb12.mono hbw0.size)).trans (hba3.mono (hbw0.trans (hb12.mono hbw0.size)).size)
    exact ⟨hO4,hw3.grown hg4 hw3.size (fun k hk => Nat.le_trans HW0.out.2.1.size (hlt0 k hk).1),hw03.grown hg4 hw03.size (fun k hk => (hlt0 k hk).1)⟩)
   have HWX:=qh (aI hw2 hM1)
   clear hb1 ho hb2 hb12 hym htk hBd hcl hco hO hbw hbw0 hz2 hO4 hg4 hba3 hlt0 hw2 hM1
   go_upto_region 6 with fail
   rw [<- HWX.out.1]
   rw [<- HWX.out.2]
   have hnn : ((rq : Int) != (rq : Int)) = false:=bne_self_eq_false _
   have g1 : (0 : Int) <= (z : Int):=by omega
   have g2 : (z : Int) <= (m : Int):=by omega
   go_upto_region 8 with fail
   go_wp2_with (at_builtin; refine wpList_append_run rfl _ _ _ rfl _ _ _ rfl rfl hrun ?_)
   go_roundw
   case rel =>
    obtain ⟨h1,h2,h3⟩:=H4.out
    obtain ⟨_,htk,hBd,_,hco,_,_,_,_,_,hm2⟩:=HR.out
    have hj2:=HJ.out.1
    refine ⟨j2,m2,cp2,ad2,_,by omega,rfl,?_,?_,by omega,h1,?_,h2,h3⟩
    ·rw [hm2,show cp - z = cp2 by omega]
    ·rw [hj2]; exact hBd
    ·rw [hj2,<- htk,List.map_append,List.map_append,hco]
     rfl
   case measure =>
    have hj2:=HJ.out.1
    show c - (j2 : Int).toNat < c - (j : Int).toNat
    omega
  ·obtain rfl : j = c:=by omega
   clear hlt
   have hd : ls.drop j = []:=List.drop_eq_nil_of_le (by rw [hcc]; exact Nat.le_refl _)
   have ht : ls.take j = ls:=List.take_of_length_le (by rw [hcc]; exact Nat.le_refl _)
   rw [hd] at hB
   rw [ht] at hco
   obtain rfl : m = 0:=by have:=hB.1; simpa [allB] using this.symm
   have HFN:=qh (aI hO (aI hco hbw))
   clear hd ht hB hO hco hbw hbw0 hcc c1
   go_wp2_with fail
   go_ret2
   exact ⟨_,ls',rfl,HFN.out.1.grownTo HW0.out.2.1.size,HFN.out.2.1,HFN.out.2.2⟩
end
end Go.Proofs.YtabdcphioccgnaaGreatDoor
