/- LogApp. -/
import Derived.Test.YtabdcphioccgnaaGreatDoorK34
set_option maxRecDepth 100000
set_option maxHeartbeats 8000000
namespace Go.Proofs.YtabdcphioccgnaaGreatDoor
section
open Go.RowKit Go.ChangeMaps Go.MapKept
section
variable {P : Program} {ops : Array Oper} {Q : Exit -> Act -> World -> Prop} {md : Region.Mode} {S : World -> Prop} {bef : Nat -> Bool}
theorem heldB_two {fuel : Nat} {listed : Array Bool} {a : Act} {w : World} (i j : Nat) {oi oj : Oper} (hr : Region.ready md ops listed = [i,j]) (hi : ops[i]? = some oi) (hj : ops[j]? = some oj)
  (h1 : ∀ K' : Act -> World -> Prop,Shut (∀ a w,(bef i = true -> S w) -> wpAnyB P md ops Q bef S fuel (listed.setIfInBounds i true) a w -> K' a w) -> if Region.wanted oi (yielded ops a.tmps) = true then Oper.wp P oi a w K' Q else K' (a.put oi.dst undef) w)
  (h2 : ∀ K' : Act -> World -> Prop,Shut (∀ a w,(bef j = true -> S w) -> wpAnyB P md ops Q bef S fuel (listed.setIfInBounds j true) a w -> K' a w) -> if Region.wanted oj (yielded ops a.tmps) = true then Oper.wp P oj a w K' Q else K' (a.put oj.dst undef) w) :
  wpAnyB P md ops Q bef S (fuel + 1) listed a w:=by
 refine ⟨fun h0 => (by rw [hr] at h0; cases h0),fun k hk => ?_⟩
 rw [hr] at hk
 rcases List.mem_cons.1 hk with rfl | hk
 ·exact wpOp_step hi (fun K' hK => h1 K' (fun a w hS hW => hK a w ⟨hS,hW⟩))
 ·obtain rfl:=List.mem_singleton.1 hk
  exact wpOp_step hj (fun K' hK => h2 K' (fun a w hS hW => hK a w ⟨hS,hW⟩))
end
theorem run_append_row_at {W : World} (B : Nat) (v : Value) (rs : List Rc) (h : W.ownsRow B TRec 3 v rs.length (rcs rs)) (r : Rc) (g : Nat) (hz : W.heap[g]? = some (.cells #[.int .i64 r.k,.int .u64 (r.q : Int),.slice r.a r.m r.c] TRec (0,0))) (ty : TypeId) (hlen : rs.length + 1 <= 1000000) (hbase : B <= W.heap.size) :
  ∃ v' w',(Builtin.append_ #[TRecs,TRecs] ty #[v,.slice (some ⟨g,0,none⟩) 1 1]).run Tryz.prog W = .ok v' w' /\ w'.ownsRow B TRec 3 v' (rs ++ [r]).length (rcs (rs ++ [r])) /\ W.grownBy w' v.ownBlock:=by
 obtain ⟨i,hi,hz0,hz1,hz2⟩:=info_any infoTRec
 obtain ⟨v',w',k1,k2,k3,_,k5⟩:=run_append_own_at (P:=Tryz.prog) W B TRecs ty TRec i (.agg #[.int .i64 0,.int .u64 0,.slice none 0 0]) 3 40 Tryz.underlying137 hi hz0 hz1 hz2 rfl (by decide) v rs.length (rcs rs)
  h ⟨g,0,none⟩ 1 1 [.int .i64 r.k,.int .u64 (r.q : Int),.slice r.a r.m r.c] (by simp) (fun j u hu => by
   have hj : j = 0 ∨ j = 1 ∨ j = 2:=by have:=(List.getElem?_eq_some_iff.1 hu).1; simp at this; omega
   rcases hj with rfl | rfl | rfl
   ·rw [show (⟨g,0,none⟩ : Addr).add 0 = ⟨g,0,none⟩ from rfl,cells_at hz]; simpa using hu
   ·rw [show (⟨g,0,none⟩ : Addr).add 1 = ⟨g,1,none⟩ from rfl,cells_at hz]; simpa using hu
   ·rw [show (⟨g,0,none⟩ : Addr).add 2 = ⟨g,2,none⟩ from rfl,cells_at hz]; simpa using hu) (by
   intro u hu
   simp at hu
   rcases hu with rfl | rfl | rfl <;> rfl) (by unfold maxLen; omega) (by omega) (by omega)
 refine ⟨v',w',k1,?_,k3⟩
 rw [rcs_app,List.length_append]
 exact k2
theorem recs_of_row {w : World} {B n : Nat} {v : Value} {rs : List Rc} (h : w.ownsRow B TRec 3 v rs.length (rcs rs)) (hb : ∀ r ∈ rs,r.q < 18446744073709551616 /\ Bs w r.a r.m r.c r.ys) (hn : rs.length = n) : ∃ a cap,v = .slice a n cap /\ Recs w a n cap rs:=by
 subst hn
 rcases h.2 with ⟨rfl,h0⟩ | ⟨g,cap,cur,rfl,_,hz,h3,h4,h5,h6⟩
 ·exact ⟨none,0,by rw [h0],rfl,by omega,by unfold maxLen; omega,.inl h0⟩
 ·refine ⟨_,cap,rfl,rfl,h3,h4,.inr ⟨g,0,rfl,(Array.getElem?_eq_some_iff.1 hz).1,fun i hi => ?_⟩⟩
  obtain ⟨g0,g1,g2⟩:=rcs_get rs i hi
  have hget : ∀ j u,(rcs rs)[j]? = some u -> w.cell? ⟨g,j,none⟩ = some u:=fun j u hu => by
   rw [cells_at hz j]
   rw [<- h6] at hu
   have hj : j < rs.length * 3:=by
    have:=(List.getElem?_eq_some_iff.1 hu).1
    simp at this
    omega
   rw [List.getElem?_take,if_pos hj] at hu
   simpa using hu
  have hr:=hb _ (List.getElem_mem hi)
  exact ⟨by rw [Nat.zero_add]; exact hget _ _ g0,by rw [Nat.zero_add]; exact hget _ _ g1,by rw [Nat.zero_add]; exact hget _ _ g2,hr.1,hr.2⟩
theorem ownsRow_weak {w : World} {B B' n size : Nat} {e : TypeId} {v : Value} {xs : List Value} (h : w.ownsRow B e size v n xs) (hB : B' <= B) : w.ownsRow B' e size v n xs:=by
 refine ⟨h.1,?_⟩
 rcases h.2 with h4 | ⟨g,cap,cur,h5,h6,h7⟩
 ·exact .inl h4
 ·exact .inr ⟨g,cap,cur,h5,Nat.le_trans hB h6,h7⟩
theorem ownr_set {W W' : World} {B N : Nat} {v : Value} {rs : List Rc} {C : Array Value} {fr : Nat × Nat} (hc : Chg (fun k => k = N) W W') (hz : W.heap[N]? = some (.cells C TRec fr)) (hv : ∀ k,v.ownBlock = some k -> k ≠ N) (ho : OwnR W B v rs) : OwnR W' B v rs:=by
 refine ⟨World.ownsRow.kept ho.1 (row:=some N) ⟨hc.os,hc.tape,hc.output,hc.size,fun k hk hne => hc.block k hk (fun e => hne (by rw [e]))⟩ ?_,fun r hr => ⟨(ho.2 r hr).1,(ho.2 r hr).2.1,hc.own (ho.2 r hr).2.2 (fun k hk e => ?_)⟩⟩
 ·cases hb : v.ownBlock with
  | none => exact .inl rfl
  | some b => exact .inr fun e => hv b hb (by injection e)
 ·obtain ⟨C2,fr2,h3⟩:=(ho.2 r hr).2.2.tyb k hk
  rw [e,hz] at h3; injection h3 with h3; injection h3 with _ h3; exact absurd h3 (by decide)
theorem own_set {W W' : World} {B N : Nat} {v : Value} {xs : List UInt8} {C : Array Value} {ty : TypeId} {fr : Nat × Nat} (hc : Chg (fun k => k = N) W W') (hz : W.heap[N]? = some (.cells C ty fr)) (hty : ty ≠ TB) (ho : Own W B v xs) : Own W' B v xs:=hc.own ho (fun k hk e => by
 obtain ⟨C2,fr2,h3⟩:=ho.tyb k hk
 rw [e,hz] at h3; injection h3 with h3; injection h3 with _ h3; exact hty h3)
theorem step_append_run {w w' : World} {ops : Array Oper} {o : Oper} {a : Act} {K : Act -> World -> Prop} {Q : Exit -> Act -> World -> Prop} {E : Prop} (hgd : Region.wanted o (yielded ops a.tmps) = true) (s x : Operand) (t : TypeId)
  (ho : o.op = .call { callee:=.builtin .append,args:=#[s,x],argTypes:=#[t,t] }) (v u v' : Value) (hs : a.eval s = v) (hx : a.eval x = u)
  (hr : (Builtin.append_ #[t,t] o.type #[v,u]).run Tryz.prog w = .ok v' w') (h : K (a.put o.dst v') w') : if Region.wanted o (yielded ops a.tmps) = true then Oper.wp Tryz.prog o a w K Q else E:=by
 rw [if_pos hgd]
 unfold Oper.wp execOp
 simp only [ho,resolve,invoke,builtin,Sem.run_bind,Sem.run_pure,Result.andThen_ok,List.map_toArray,List.map_cons,List.map_nil,hs,hx,hr]
 exact h
variable {w : World} {B l d : Nat} {s p g : Int} {hv wv : Value} {M : LogM}
theorem log_cells {w : World} {l d : Nat} {s p g : Int} {sl nx : Nat} {hv wv : Value} (h : w.heap[l]? = some (.cells (logC d s p g sl hv nx wv) TLog (0,0))) :
  w.cell? ⟨l,0,none⟩ = some (.pointer (some ⟨d,0,none⟩)) /\ w.cell? ⟨l,1,none⟩ = some (.int .i64 s) /\ w.cell? ⟨l,2,none⟩ = some (.int .i64 p) /\ w.cell? ⟨l,3,none⟩ = some (.int .i64 g) /\ w.cell? ⟨l,4,none⟩ = some (.int .i64 (sl : Int)) /\ w.cell? ⟨l,5,none⟩ = some hv /\ w.cell? ⟨l,6,none⟩ = some (.int .u64 (nx : Int)) /\ w.cell? ⟨l,7,none⟩ = some wv :=
 ⟨cells_at h 0,cells_at h 1,cells_at h 2,cells_at h 3,cells_at h 4,cells_at h 5,cells_at h 6,cells_at h 7⟩
theorem rc_cells {w : World} {g : Nat} {k : Int} {q : Nat} {v : Value} (h : w.heap[g]? = some (.cells #[.int .i64 k,.int .u64 (q : Int),v] TRec (0,0))) :
  w.cell? ⟨g,0,none⟩ = some (.int .i64 k) /\ w.cell? ⟨g,1,none⟩ = some (.int .u64 (q : Int)) /\ w.cell? ⟨g,2,none⟩ = some v:=⟨cells_at h 0,cells_at h 1,cells_at h 2⟩
def AppS (w : World) (l d : Nat) (s p g : Int) (sl nx : Nat) (hv wv : Value) (N : Nat) (k : Int) (q : Nat) (v : Value) : Prop :=
 w.heap[l]? = some (.cells (logC d s p g sl hv nx wv) TLog (0,0)) /\ w.heap[N]? = some (.cells #[.int .i64 k,.int .u64 (q : Int),v] TRec (0,0))
theorem AppS.below {w w' : World} {l d : Nat} {s p g : Int} {sl nx : Nat} {hv wv : Value} {N : Nat} {k : Int} {q : Nat} {v : Value} (h : AppS w l d s p g sl nx hv wv N k q v) (hb : Below w.heap.size w w') : AppS w' l d s p g sl nx hv wv N k q v :=
 ⟨(hb.block l (ltH h.1)).trans h.1,(hb.block N (ltH h.2)).trans h.2⟩
theorem AppS.cells {w : World} {l d : Nat} {s p g : Int} {sl nx : Nat} {hv wv : Value} {N : Nat} {k : Int} {q : Nat} {v : Value} (h : AppS w l d s p g sl nx hv wv N k q v) :
  w.cell? ⟨l,7,none⟩ = some wv /\ w.cell? ⟨N,0,none⟩ = some (.int .i64 k) /\ w.cell? ⟨N,1,none⟩ = some (.int .u64 (q : Int)) /\ w.cell? ⟨N,2,none⟩ = some v :=
 ⟨(log_cells h.1).2.2.2.2.2.2.2,(rc_cells h.2).1,(rc_cells h.2).2.1,(rc_cells h.2).2.2⟩
theorem app_fits {w2 W : World} {v : Value} {k q m cp n n1 g0 : Nat} {a : Option Addr} {ys : List UInt8} (h : LogIn w B l d s p g hv wv M) (hys : Bs w a m cp ys)
  (hfit : fitsN 942 (M.wait ++ [⟨(k : Int),q,a,m,cp,ys⟩]) = M.wait.length + 1) (hn : M.wait.length = n) (hn1 : n <= 1000) (he1 : n1 = n + 1) (hq : q < 18446744073709551616)
  (hr : W.ownsRow w2.heap.size TRec 3 v M.wait.length (rcs M.wait)) (hz : W.heap[g0]? = some (.cells #[.int .i64 (k : Int),.int .u64 (q : Int),.slice a m cp] TRec (0,0))) (h2W : w2.heap.size <= W.heap.size) :
  ∃ v' w',(Builtin.append_ #[TRecs,TRecs] TRecs #[v,.slice (some ⟨g0,0,none⟩) 1 1]).run Tryz.prog W = .ok v' w' /\ W.grownBy w' v.ownBlock /\
   (Below w2.heap.size W w' -> Below w.heap.size w w' -> Calls Tryz.prog 70 #[v'] w' fun e w'' => e = .returned (.int .i64 (n1 : Int)) /\ Below w'.heap.size w' w''):=by
 subst he1
 obtain ⟨v',w',h1,h2,h3⟩:=run_append_row_at (W:=W) w2.heap.size v M.wait hr ⟨(k : Int),q,a,m,cp,ys⟩ g0 hz TRecs (by omega) h2W
 refine ⟨v',w',h1,h3,fun hb2 hbw => ?_⟩
 obtain ⟨a',cap',rfl,hR⟩:=recs_of_row (n:=n + 1) h2 (fun r hr => by
  rcases List.mem_append.1 hr with hr | hr
  ·obtain ⟨k1,k2,k3⟩:=h.wt.2 r hr
   obtain ⟨x1,x2,e,hBx⟩:=(k3.below hbw).bsn k2
   injection e with e1 _ e3
   rw [e1,e3]
   exact ⟨k1,hBx⟩
  ·obtain rfl : r = _:=List.mem_singleton.1 hr
   exact ⟨hq,hys.below hbw⟩) (by simp [hn])
 have:=fits_any a' (n + 1) cap' _ w' hR (by omega)
 rw [hfit,hn] at this
 exact this
theorem append_ok (h : LogIn w B l d s p g hv wv M) (hBw : B <= w.heap.size) (hg : 0 <= g /\ g <= 65535) (hroom : (M.sealed : Int) < g) (k q m cp : Nat) (a : Option Addr) (ys : List UInt8) (hq : q = M.next + M.wait.length) (hn : M.next + M.wait.length <= 1099511627776) (hok : RecOk (k : Int) q m) (hys : Bs w a m cp ys)
  (hfit : fitsN 942 (M.wait ++ [⟨(k : Int),q,a,m,cp,ys⟩]) = M.wait.length + 1) (hwl : M.wait.length <= 1000) :
  Calls Tryz.prog 19 #[.pointer (some ⟨l,0,none⟩),.agg #[.int .i64 (k : Int),.int .u64 (q : Int),.slice a m cp]] w fun e w' => e = .returned (.int .i64 0) /\
   (∃ wv' r',r'.core = ((k : Int),q,ys) /\ LogIn w' B l d s p g hv wv' ⟨M.sealed,M.head,M.next,M.wait ++ [r']⟩) /\ Chg (fun k => k = l ∨ wv.ownBlock = some k) w w':=by
 obtain ⟨n,hn'⟩ : ∃ n,M.wait.length = n:=⟨_,rfl⟩
 obtain ⟨wa,wcap,rfl,hRc⟩:=h.wt.recs hn'
 obtain ⟨w0,hw0⟩:=qnm (w.alloc (.cells #[.int .i64 (k : Int),.int .u64 (q : Int),.slice a m cp] TRec))
 have hb0:=qba hw0
 have hz0 : w0.heap[w.heap.size]? = some (.cells #[.int .i64 (k : Int),.int .u64 (q : Int),.slice a m cp] TRec (0,0)):=by rw [hw0]; exact heap_alloc_new w _
 obtain ⟨N,hN⟩:=qnm w.heap.size
 rw [<- hN] at hz0
 have hm65:=hok.2.1
 have hyl:=hys.1
 have hs65 : M.sealed <= 65535:=by omega
 have hA0 : AppS w0 l d s p g M.sealed M.next hv (.slice wa n wcap) N (k : Int) q (.slice a m cp):=⟨(hb0.block l h.lt).trans h.cel,hz0⟩
 have HS:=qh (aI h (aI hBw (aI hok (aI hys (aI hfit hn')))))
 have HQ:=qh (aI hq (aI hn hwl))
 have HW0:=qh (aI hw0 (aI hb0 (aI hN hA0)))
 have HRR:=qh (fun W => recright_any (k : Int) q a m cp W)
 rw [decide_eq_true hok] at HRR
 have HNX:=qh (fun W (hb : Below w.heap.size w W) => lnext_any (h.below hb) (by omega))
 rw [<- hq] at HNX
 have HRM:=qh (fun W (hb : Below w.heap.size w W) => lroom_any (h.below hb) hg hs65)
 have HHG:=qh hroom
 obtain ⟨sl,hsl⟩:=qnm M.sealed
 rw [<- hsl] at HRM hroom hA0
 have HSL:=qh hsl
 have hr0 : ((g - (sl : Int)) == 0) = false:=by rw [beq_eq_false_iff_ne]; omega
 clear h hq hn hok hys hfit hn' hw0 hb0 hz0 hN hm65 hs65 hRc hBw hsl hroom hyl
 go_enter Tryz.func19,Tryz.ntmps19
 go_upto_region 1 with fail
 rw [<- HW0.out.1,<- HW0.out.2.2.1]
 refine heldB_start (fun i => [0,1,2,3,4,5,6,7,8,9].contains i) (fun w' => w'.cell? ⟨l,7,none⟩ = some (.slice wa n wcap) /\ w'.cell? ⟨N,0,none⟩ = some (.int .i64 (k : Int)) /\ w'.cell? ⟨N,1,none⟩ = some (.int .u64 (q : Int)) /\ w'.cell? ⟨N,2,none⟩ = some (.slice a m cp)) (by kernel_rfl) ?_ (fun hHeld => ?_)
 ·exact hA0.cells
 refine qtk 0 6 ?_
 simp only [qz0,qz1]
 refine qone 1 fun K hK => ?_
 go_simp
 refine (HRR.out _).mono ?_
 rintro e w1 ⟨rfl,hb1⟩
 have hb1' : Below w0.heap.size w0 w1:=(Below.refl _ _).drew.trans hb1
 have hHeld:=(HW0.out.2.2.2.below hb1').cells
 have HN1:=qh (HNX.out w1 (HW0.out.2.1.trans (hb1'.mono HW0.out.2.1.size)))
 have HB1:=qh hb1'
 clear hb1 hb1'
 go_wp2_with fail
 refine hK.out _ _ (fun _ => hHeld) ?_
 clear hK K
 refine qtk 2 8 ?_
 simp only [qz0,qz1]
 refine qtk 3 9 ?_
 simp only [qz0,qz1]
 refine qtk 4 10 ?_
 simp only [qz0,qz1]
 refine qtk 5 11 ?_
 simp only [qz0,qz1]
 refine qtk 6 12 ?_
 simp only [qz0,qz1]
 refine qone 7 fun K hK => ?_
 go_simp
 refine (HN1.out).mono ?_
 rintro e w2 ⟨rfl,hb2⟩
 have hb2' : Below w0.heap.size w0 w2:=HB1.out.trans (hb2.mono HB1.out.size)
 have HA2:=qh (aI (HW0.out.2.2.2.below hb2') hb2')
 have hHeld:=HA2.out.1.cells
 clear hb2 hb2' HN1 HB1
 go_wp2_with fail
 refine hK.out _ _ (fun _ => hHeld) ?_
 clear hK K
 refine qtk 8 14 ?_
 simp only [qz0,qz1]
 refine qtk 9 15 ?_
 simp only [qz0,qz1]
 refine qdon ?_
 clear hHeld HRR HNX hA0
 obtain ⟨hA2,hb2⟩:=HA2.out
 have hbw2 : Below w.heap.size w w2:=HW0.out.2.1.trans (hb2.mono HW0.out.2.1.size)
 have hnn : ((q : Int) != (q : Int)) = false:=bne_self_eq_false _
 have HB2:=qh hbw2
 clear hb2 hbw2
 go_upto_region 3 with fail
 go_cut [5] (fun v wx => v = .bool true /\ AppS wx l d s p g M.sealed M.next hv (.slice wa n wcap) N (k : Int) q (.slice a m cp) /\ Below w.heap.size w wx)
 case first =>
  obtain ⟨h,hBw,hok,hys,hfit,hn'⟩:=HS.out
  obtain ⟨hq,hn,hwl⟩:=HQ.out
  obtain ⟨n1,hn1⟩:=qnm (n + 1)
  have hgt : (n : Int) < (n1 : Int):=by omega
  have hb2d : Below w2.heap.size w2 w2.drew:=(Below.refl _ _).drew
  have hA2d:=hA2.below hb2d
  have hbw2d : Below w.heap.size w w2.drew:=HB2.out.drew
  have HPK:=qh (aI h (aI hys (aI hfit (aI hn' (aI (show n <= 1000 by omega) (aI hn1 (show q < 18446744073709551616 by omega)))))))
  have HAK:=qh (aI hA2d hbw2d)
  have HCL:=qh (rclone_any w2.drew ((h.below HB2.out).wt.below hb2d) (by omega))
  clear h hBw hok hys hfit hn' hq hn hwl hn1 hb2d hbw2d
  refine heldB_start (fun i => [0,1,2,3,4,5,6,7,8,9,10,11,12,13,14,15].contains i) (fun w' => w'.cell? ⟨l,7,none⟩ = some (.slice wa n wcap) /\ w'.cell? ⟨N,0,none⟩ = some (.int .i64 (k : Int)) /\ w'.cell? ⟨N,1,none⟩ = some (.int .u64 (q : Int)) /\ w'.cell? ⟨N,2,none⟩ = some (.slice a m cp)) (by kernel_rfl) ?_ (fun hHeld => ?_)
  ·exact hA2d.cells
  clear hA2d hA2
  obtain ⟨wd,hwd⟩:=qnm w2.drew
  rw [<- hwd] at hHeld HAK HCL ⊢
  clear hwd
  refine qtk 0 16 ?_
  simp only [qz0,qz1]
  refine qtk 1 17 ?_
  simp only [qz0,qz1]
  refine qtk 2 18 ?_
  simp only [qz0,qz1]
  refine qtk 3 19 ?_
  simp only [qz0,qz1]
  refine qtk 5 21 ?_
  simp only [qz0,qz1]
  refine qtk 9 25 ?_
  simp only [qz0,qz1]
  refine qtk 10 26 ?_
  simp only [qz0,qz1]
  refine qtk 11 27 ?_
  simp only [qz0,qz1]
  refine qtk 12 28 ?_
  simp only [qz0,qz1]
  refine qtk 13 29 ?_
  simp only [qz0,qz1]
  refine heldB_two 4 6 (by kernel_rfl) rfl rfl (fun K hK => ?_) (fun K hK => ?_)
  ·go_simp
   refine HCL.out.mono ?_
   rintro e w3 ⟨v3,rfl,ho3,hb3⟩
   obtain ⟨ca,cl,cc,rfl⟩:=ownsRow_slice ho3
   obtain ⟨hA2e,hbwe⟩:=HAK.out
   have hA3:=hA2e.below hb3
   have hHeld:=hA3.cells
   go_wp2_with fail
   refine hK.out _ _ (fun _ => hHeld) ?_
   clear hK K
   refine qone 6 fun K hK => ?_
   go_simp
   obtain ⟨w4,hw4⟩:=qnm (w3.alloc (.cells #[.int .i64 (k : Int),.int .u64 (q : Int),.slice a m cp] TRec))
   have hba:=qba hw4
   have hz4 : w4.heap[w3.heap.size]? = some (.cells #[.int .i64 (k : Int),.int .u64 (q : Int),.slice a m cp] TRec (0,0)):=by rw [hw4]; exact heap_alloc_new w3 _
   have hA4:=hA3.below hba
   have hHeld:=hA4.cells
   rw [<- hw4]
   refine hK.out _ _ (fun _ => hHeld) ?_
   clear hK K hw4
   have ho4:=ownsRow_below ho3 hba
   have hb4 : Below wd.heap.size wd w4:=hb3.trans (hba.mono hb3.size)
   obtain ⟨v5,w5,hr5,hg5,HFT⟩:=app_fits (w2:=wd) (W:=w4) HPK.out.1 HPK.out.2.1 HPK.out.2.2.1 HPK.out.2.2.2.1 HPK.out.2.2.2.2.1 HPK.out.2.2.2.2.2.1 HPK.out.2.2.2.2.2.2 ho4 hz4 hb4.size
   refine qone 7 fun K hK => ?_
   refine step_append_run (by rfl) _ _ TRecs rfl _ _ _ (by rfl) (by rfl) hr5 ?_
   have hg5b : Below wd.heap.size w4 w5:=(Below.refl _ _).grown hg5 hb4.size (fun x hx => (World.ownsRow.lt ho4 x hx).1) |> fun h => ⟨h.os,h.tape,h.output,h.size,h.block⟩
   have hbw4 : Below wd.heap.size wd w5:=hb4.trans hg5b
   have hA5:=hA2e.below hbw4
   have hHeld:=hA5.cells
   refine hK.out _ _ (fun _ => hHeld) ?_
   clear hK K
   refine qone 8 fun K hK => ?_
   go_simp
   refine (HFT hg5b (hbwe.trans (hbw4.mono hbwe.size))).mono ?_
   rintro e w6 ⟨rfl,hb6⟩
   have hA6:=hA5.below hb6
   have hHeld:=hA6.cells
   have HM:=qh (aI hA6 ((hbwe.trans (hbw4.mono hbwe.size)).trans (hb6.mono (hbwe.trans (hbw4.mono hbwe.size)).size)))
   go_wp2_with fail
   refine hK.out _ _ (fun _ => hHeld) ?_
   clear hK K hA6 hA5 hbw4 hg5b hb6 HFT hr5 hg5 hA2e hbwe
   refine qtk 14 30 ?_
   simp only [qz0,qz1]
   refine qtk 15 5 ?_
   simp only [qz0,qz1]
   refine qdon ?_
   go_wp2_with fail
   go_meet
   exact ⟨rfl,HM.out.1,HM.out.2⟩
  ·go_simp
   obtain ⟨hA2e,hbwe⟩:=HAK.out
   obtain ⟨w3,hw3⟩:=qnm (wd.alloc (.cells #[.int .i64 (k : Int),.int .u64 (q : Int),.slice a m cp] TRec))
   have hb3:=qba hw3
   have hz3 : w3.heap[wd.heap.size]? = some (.cells #[.int .i64 (k : Int),.int .u64 (q : Int),.slice a m cp] TRec (0,0)):=by rw [hw3]; exact heap_alloc_new wd _
   have hA3:=hA2e.below hb3
   have hHeld:=hA3.cells
   rw [<- hw3]
   refine hK.out _ _ (fun _ => hHeld) ?_
   clear hK K hw3
   have hCL:=rclone_any w3 ((HPK.out.1.below (hbwe.trans (hb3.mono hbwe.size))).wt) (by have:=HPK.out; omega)
   refine qone 4 fun K hK => ?_
   go_simp
   refine hCL.mono ?_
   rintro e w4 ⟨v4,rfl,ho4',hb4'⟩
   obtain ⟨ca,cl,cc,rfl⟩:=ownsRow_slice ho4'
   have hz4:=(hb4'.block _ (ltH hz3)).trans hz3
   have hA4:=hA3.below hb4'
   have hHeld:=hA4.cells
   go_wp2_with fail
   refine hK.out _ _ (fun _ => hHeld) ?_
   clear hK K hCL
   have hb4 : Below wd.heap.size wd w4:=hb3.trans (hb4'.mono hb3.size)
   have ho4:=ownsRow_weak ho4' hb3.size
   obtain ⟨v5,w5,hr5,hg5,HFT⟩:=app_fits (w2:=wd) (W:=w4) HPK.out.1 HPK.out.2.1 HPK.out.2.2.1 HPK.out.2.2.2.1 HPK.out.2.2.2.2.1 HPK.out.2.2.2.2.2.1 HPK.out.2.2.2.2.2.2 ho4 hz4 hb4.size
   refine qone 7 fun K hK => ?_
   refine step_append_run (by rfl) _ _ TRecs rfl _ _ _ (by rfl) (by rfl) hr5 ?_
   have hg5b : Below wd.heap.size w4 w5:=(Below.refl _ _).grown hg5 hb4.size (fun x hx => (World.ownsRow.lt ho4 x hx).1) |> fun h => ⟨h.os,h.tape,h.output,h.size,h.block⟩
   have hbw4 : Below wd.heap.size wd w5:=hb4.trans hg5b
   have hA5:=hA2e.below hbw4
   have hHeld:=hA5.cells
   refine hK.out _ _ (fun _ => hHeld) ?_
   clear hK K
   refine qone 8 fun K hK => ?_
   go_simp
   refine (HFT hg5b (hbwe.trans (hbw4.mono hbwe.size))).mono ?_
   rintro e w6 ⟨rfl,hb6⟩
   have hA6:=hA5.below hb6
   have hHeld:=hA6.cells
   have HM:=qh (aI hA6 ((hbwe.trans (hbw4.mono hbwe.size)).trans (hb6.mono (hbwe.trans (hbw4.mono hbwe.size)).size)))
   go_wp2_with fail
   refine hK.out _ _ (fun _ => hHeld) ?_
   clear hK K hA6 hA5 hbw4 hg5b hb6 HFT hr5 hg5 hA2e hbwe
   refine qtk 14 30 ?_
   simp only [qz0,qz1]
   refine qtk 15 5 ?_
   simp only [qz0,qz1]
   refine qdon ?_
   go_wp2_with fail
   go_meet
   exact ⟨rfl,HM.out.1,HM.out.2⟩
 case rest =>
  obtain ⟨rfl,hA,hbx⟩:=hcut
  obtain ⟨wx,rfl⟩:=qnm wc
  have HR4:=qh (HRM.out wx hbx)
  have HA:=qh (aI hA hbx)
  clear hA hbx hA2 HRM
  go_wp2_with fail
  refine HR4.out.mono ?_
  rintro e w4 ⟨rfl,hb4⟩
  have hA4:=HA.out.1.below hb4
  have hbw4 : Below w.heap.size w w4:=HA.out.2.trans (hb4.mono HA.out.2.size)
  obtain ⟨_,_,_,c2⟩:=hA4.cells
  have HCL:=qh (clone_any a m cp ys w4 (HS.out.2.2.2.1.below hbw4) (by have:=HS.out.2.2.1.2.1; unfold big; omega))
  have H4:=qh (aI hA4 hbw4)
  clear hA4 hbw4 hb4 HR4
  go_wp2_with fail
  refine HCL.out.mono ?_
  rintro e w5 ⟨v5,rfl,ho5,hb5⟩
  obtain ⟨va,vc,rfl,_⟩:=ho5.bsn (n:=m) HS.out.2.2.2.1.1
  have hA5:=H4.out.1.below hb5
  have hbw5 : Below w.heap.size w w5:=H4.out.2.trans (hb5.mono H4.out.2.size)
  have f2:=frz_of hA5.2 2
  have c25 : w5.cell? ⟨N,2,none⟩ = some (.slice a m cp):=cells_at hA5.2 2
  have hN5:=ltH hA5.2
  obtain ⟨w6,hw6⟩:=qnm (w5.setCell ⟨N,2,none⟩ (.slice va m vc))
  have hc6 : Chg (fun k => k = N) w5 w6:=by rw [hw6]; exact chg_set w5 N 2 _
  have hz6 : w6.heap[N]? = some (.cells #[.int .i64 (k : Int),.int .u64 (q : Int),.slice va m vc] TRec (0,0)):=by rw [hw6]; exact cells_set hA5.2
  have hNw:=HW0.out.2.2.1
  have hlw:=HS.out.1.lt
  have hl6 : w6.heap[l]? = some (.cells (logC d s p g M.sealed hv M.next (.slice wa n wcap)) TLog (0,0)):=(hc6.block l (ltH hA5.1) (by omega)).trans hA5.1
  have hbw6 : Below w.heap.size w w6:=hbw5.trans (hc6.below hbw5.size (fun x _ e => by omega))
  have ho6:=own_set hc6 hA5.2 (by decide) ho5
  have hW6 : OwnR w6 B (.slice wa n wcap) M.wait:=ownr_set hc6 hA5.2 (fun x hx => by have:=(HS.out.1.wt.lt x hx).2; omega) (HS.out.1.below hbw5).wt
  have hH6 : Own w6 B hv M.head:=own_set hc6 hA5.2 (by decide) (HS.out.1.below hbw5).hd
  have hbd : Below w6.heap.size w6 w6.drew:=(Below.refl _ _).drew
  have hBw6 : B <= w6.heap.size:=Nat.le_trans HS.out.2.1 hbw6.size
  obtain ⟨v',w8,hrun,hO8,hg8,hv8⟩:=run_append_rc (w:=w6.drew) B (.slice wa n wcap) M.wait (hW6.below hbd) ⟨(k : Int),q,va,m,vc,ys⟩ (show q < 18446744073709551616 by have:=HQ.out; omega) (show ys.length = m from HS.out.2.2.2.1.1) ((ho6.below hbd).base (Nat.le_trans HS.out.2.1 H4.out.2.size)) TRecs (by have:=HQ.out; omega) hBw6
  obtain ⟨n8,hn8⟩ : ∃ n8,(M.wait ++ [(⟨(k : Int),q,va,m,vc,ys⟩ : Rc)]).length = n8:=⟨_,rfl⟩
  obtain ⟨a8,c8,rfl,_⟩:=hO8.recs hn8
  clear hn8
  have hba : Below w6.drew.heap.size w6.drew (w6.drew.alloc (.cells #[.int .i64 (k : Int),.int .u64 (q : Int),.slice va m vc] TRec)):=(Below.refl _ _).alloc (Nat.le_refl _) _
  have hb68:=hbd.trans (hba.mono hbd.size)
  have hrow : ∀ x,(Value.slice wa n wcap).ownBlock = some x -> ∃ C fr,(w6.drew.alloc (.cells #[.int .i64 (k : Int),.int .u64 (q : Int),.slice va m vc] TRec)).heap[x]? = some (.cells C TRec fr):=fun x hx => by
   obtain ⟨C2,fr2,h3⟩:=hW6.ty x hx
   exact ⟨C2,fr2,(hb68.block x (ltH h3)).trans h3⟩
  have hlr : (Value.slice wa n wcap).ownBlock ≠ some l:=fun e => by
   obtain ⟨C2,fr2,h3⟩:=hW6.ty l e
   rw [hl6] at h3; injection h3 with h3; injection h3 with _ h3; exact absurd h3 (by decide)
  have hl7:=(hb68.block l (ltH hl6)).trans hl6
  have hl8:=(hg8.block l (ltH hl7) (fun e => hlr e.symm)).trans hl7
  have hH8 : Own w8 B hv M.head:=own_grown (hH6.below hb68) hg8 hrow
  have f7:=frz_of hl8 7
  have c78 : w8.cell? ⟨l,7,none⟩ = some (.slice wa n wcap):=cells_at hl8 7
  have c7 : w6.cell? ⟨l,7,none⟩ = some (.slice wa n wcap):=cells_at hl6 7
  obtain ⟨d0,d1,d2⟩:=rc_cells hz6
  have hch8 : Chg (fun x => x = l ∨ (Value.slice wa n wcap).ownBlock = some x) w w8:=((Chg.of_below hbw6 _).step hb68).grown hg8 (fun x _ hx => .inr hx)
  have hl8l:=ltH hl8
  have HF:=qh (show LogIn (w8.setCell ⟨l,7,none⟩ (.slice a8 n8 c8)) B l d s p g hv (.slice a8 n8 c8) ⟨M.sealed,M.head,M.next,M.wait ++ [⟨(k : Int),q,va,m,vc,ys⟩]⟩ /\ Chg (fun x => x = l ∨ (Value.slice wa n wcap).ownBlock = some x) w (w8.setCell ⟨l,7,none⟩ (.slice a8 n8 c8)) from
   ⟨⟨cells_set hl8,own_log hl8 (chg_set w8 l 7 (.slice a8 n8 c8)) hH8,ownr_log hl8 (chg_set w8 l 7 (.slice a8 n8 c8)) hO8⟩,hch8.trans (chg_set w8 l 7 (.slice a8 n8 c8)) (fun x _ h => .inl h)⟩)
  have HW6:=qh (aI hw6 hNw)
  have hz7:=(hb68.block N (ltH hz6)).trans hz6
  have hz8 : w8.heap[N]? = some (.cells #[.int .i64 (k : Int),.int .u64 (q : Int),.slice va m vc] TRec (0,0)):=(hg8.block N (ltH hz7) (fun e => by have:=(HS.out.1.wt.lt N e.symm).2; omega)).trans hz7
  have HHA:=qh (aI (show (w6.drew.alloc (.cells #[.int .i64 (k : Int),.int .u64 (q : Int),.slice va m vc] TRec)).cell? ⟨l,7,none⟩ = some (.slice wa n wcap) from cells_at hl7 7) (rc_cells hz7))
  have HH8:=qh (aI (show w8.cell? ⟨l,7,none⟩ = some (.slice wa n wcap) from cells_at hl8 7) (rc_cells hz8))
  have hll6:=ltH hl6
  have hNl6:=ltH hz6
  clear hA5 hc6 hz6 hNw hlw hl6 hbw5 hbw6 ho6 hW6 hH6 hbd hBw6 hO8 hg8 hba hb68 hrow hlr hl7 hl8 hH8 hch8 ho5 hb5 HCL H4 hw6 hz7 hz8
  go_upto_region 10 with fail
  rw [<- HW6.out.1]
  refine heldB_start (fun i => [0,1,2,3,4,5,6,7,8,9].contains i) (fun w' => w'.cell? ⟨l,7,none⟩ = some (.slice wa n wcap) /\ w'.cell? ⟨N,0,none⟩ = some (.int .i64 (k : Int)) /\ w'.cell? ⟨N,1,none⟩ = some (.int .u64 (q : Int)) /\ w'.cell? ⟨N,2,none⟩ = some (.slice va m vc)) (by kernel_rfl) ?_ (fun hHeld => ?_)
  ·exact ⟨c7,d0,d1,d2⟩
  refine qtk 0 51 ?_
  simp only [qz0,qz1]
  refine qtk 1 52 ?_
  simp only [qz0,qz1]
  refine qtk 2 53 ?_
  simp only [qz0,qz1]
  refine qtk 3 54 ?_
  simp only [qz0,qz1]
  refine qtk 4 55 ?_
  simp only [qz0,qz1]
  refine qtk 5 56 ?_
  simp only [qz0,qz1]
  refine qone 6 fun K hK => ?_
  go_simp
  have hHeld:=HHA.out
  refine hK.out _ _ (fun _ => hHeld) ?_
  clear hK K
  refine qone 7 fun K hK => ?_
  refine step_append_run (by rfl) _ _ TRecs rfl _ _ _ (by rfl) (by rfl) hrun ?_
  have hHeld:=HH8.out
  refine hK.out _ _ (fun _ => hHeld) ?_
  clear hK K
  refine qone 8 fun K hK => ?_
  go_simp
  refine hK.out _ _ (fun _ => hHeld) ?_
  clear hK K
  refine qone 9 fun K hK => ?_
  go_simp
  refine hK.out _ _ (fun _ => hHeld) ?_
  clear hK K
  refine qone 10 fun K hK => ?_
  go_simp
  refine hK.out _ _ (fun h => by simp at h) ?_
  clear hK K
  refine qdon ?_
  go_wp2_with fail
  go_ret
  exact ⟨rfl,⟨_,_,rfl,HF.out.1⟩,HF.out.2⟩
end
end Go.Proofs.YtabdcphioccgnaaGreatDoor
