/- StFree; StNo; StCreate; StClose. -/
import Derived.Test.YtabdcphioccgnaaGreatDoorK25
set_option maxRecDepth 100000
set_option maxHeartbeats 8000000
namespace Go.Proofs.YtabdcphioccgnaaGreatDoor
section
open Go.RowKit Go.ChangeMaps Go.MapKept
variable {w : World} {L B C s t sn : Nat} {fp : Nat -> Option Nat} {σ : StM}
def freeFrom (f : Nat -> Option Opn) : Nat -> Nat -> Int
 | 0,_ => -1
 | n + 1,k => if (f k).isNone then (k : Int) else freeFrom f n (k + 1)
def freeS (σ : StM) : Int:=freeFrom σ.fds 8 0
theorem freeS_ok (f : Nat -> Option Opn) : ∀ (n k : Nat),freeFrom f n k = -1 ∨ ∃ j : Nat,freeFrom f n k = (j : Int) /\ k <= j /\ j < k + n /\ f j = none
 | 0,k => .inl rfl
 | n + 1,k => by
  unfold freeFrom
  cases hf : f k with
  | none => exact .inr ⟨k,by simp,by omega,by omega,hf⟩
  | some o =>
   simp only [Option.isNone_some,Bool.false_eq_true,if_false]
   rcases freeS_ok f n (k + 1) with h | ⟨j,h1,h2,h3,h4⟩
   ·exact .inl h
   ·exact .inr ⟨j,h1,by omega,by omega,h4⟩
theorem run_index_fds (w : World) (cs : Array Value) (i : Nat) (q : Option Addr) (hi : i < 8) (h : cs[i]? = some (.pointer q)) : (Instr.index 102 (.agg cs) (.int .i64 (i : Int))).run Tryz.prog w = .ok (.pointer q) w:=by
 simp [Instr.index,run_underlying Tryz.underlying102,asIntOf,go_sem,Tryz.sizeOf101,Tryz.isAgg101,h]
 intro h9
 omega
theorem free_any (h : StIn w L B C s t sn fp σ) :
  Calls Tryz.prog 113 #[.pointer (some ⟨s,0,none⟩)] w fun e w' => e = .returned (.int .i64 (freeS σ)) /\ w = w':=by
 have hq : ∀ i,i < 8 -> ∃ q : Option Addr,w.cell? ⟨s,3 + i,none⟩ = some (.pointer q) /\ ((σ.fds i).isNone = true -> q = none) /\ ((σ.fds i).isNone = false -> ∃ g,q = some ⟨g,0,none⟩):=fun i hi => by
  refine ⟨_,h.fdcell i hi,fun h1 => ?_,fun h1 => ?_⟩
  ·rw [h.no i hi (by simpa using h1)]; rfl
  ·cases hf : σ.fds i with
   | none => rw [hf] at h1; cases h1
   | some o =>
    obtain ⟨g,hg,_⟩:=h.fd i o hi hf
    exact ⟨g,by rw [hg]; rfl⟩
 have HF:=qh (show freeS σ = if (σ.fds 0).isNone then 0 else if (σ.fds 1).isNone then 1 else if (σ.fds 2).isNone then 2 else if (σ.fds 3).isNone then 3 else if (σ.fds 4).isNone then 4 else if (σ.fds 5).isNone then 5 else if (σ.fds 6).isNone then 6 else if (σ.fds 7).isNone then 7 else -1 from rfl)
 obtain ⟨q0,c0,n0,s0⟩:=hq 0 (by omega)
 obtain ⟨q1,c1,n1,s1⟩:=hq 1 (by omega)
 obtain ⟨q2,c2,n2,s2⟩:=hq 2 (by omega)
 obtain ⟨q3,c3,n3,s3⟩:=hq 3 (by omega)
 obtain ⟨q4,c4,n4,s4⟩:=hq 4 (by omega)
 obtain ⟨q5,c5,n5,s5⟩:=hq 5 (by omega)
 obtain ⟨q6,c6,n6,s6⟩:=hq 6 (by omega)
 obtain ⟨q7,c7,n7,s7⟩:=hq 7 (by omega)
 simp only [Nat.reduceAdd] at c0 c1 c2 c3 c4 c5 c6 c7
 generalize freeS σ = r at *
 generalize (σ.fds 0).isNone = b0 at *
 generalize (σ.fds 1).isNone = b1 at *
 generalize (σ.fds 2).isNone = b2 at *
 generalize (σ.fds 3).isNone = b3 at *
 generalize (σ.fds 4).isNone = b4 at *
 generalize (σ.fds 5).isNone = b5 at *
 generalize (σ.fds 6).isNone = b6 at *
 generalize (σ.fds 7).isNone = b7 at *
 have x0 : ∀ w,(Instr.index 102 (.agg #[.pointer q0,.pointer q1,.pointer q2,.pointer q3,.pointer q4,.pointer q5,.pointer q6,.pointer q7]) (.int .i64 0)).run Tryz.prog w = .ok (.pointer q0) w:=fun w => run_index_fds w _ 0 q0 (by omega) rfl
 have x1 : ∀ w,(Instr.index 102 (.agg #[.pointer q0,.pointer q1,.pointer q2,.pointer q3,.pointer q4,.pointer q5,.pointer q6,.pointer q7]) (.int .i64 1)).run Tryz.prog w = .ok (.pointer q1) w:=fun w => run_index_fds w _ 1 q1 (by omega) rfl
 have x2 : ∀ w,(Instr.index 102 (.agg #[.pointer q0,.pointer q1,.pointer q2,.pointer q3,.pointer q4,.pointer q5,.pointer q6,.pointer q7]) (.int .i64 2)).run Tryz.prog w = .ok (.pointer q2) w:=fun w => run_index_fds w _ 2 q2 (by omega) rfl
 have x3 : ∀ w,(Instr.index 102 (.agg #[.pointer q0,.pointer q1,.pointer q2,.pointer q3,.pointer q4,.pointer q5,.pointer q6,.pointer q7]) (.int .i64 3)).run Tryz.prog w = .ok (.pointer q3) w:=fun w => run_index_fds w _ 3 q3 (by omega) rfl
 have x4 : ∀ w,(Instr.index 102 (.agg #[.pointer q0,.pointer q1,.pointer q2,.pointer q3,.pointer q4,.pointer q5,.pointer q6,.pointer q7]) (.int .i64 4)).run Tryz.prog w = .ok (.pointer q4) w:=fun w => run_index_fds w _ 4 q4 (by omega) rfl
 have x5 : ∀ w,(Instr.index 102 (.agg #[.pointer q0,.pointer q1,.pointer q2,.pointer q3,.pointer q4,.pointer q5,.pointer q6,.pointer q7]) (.int .i64 5)).run Tryz.prog w = .ok (.pointer q5) w:=fun w => run_index_fds w _ 5 q5 (by omega) rfl
 have x6 : ∀ w,(Instr.index 102 (.agg #[.pointer q0,.pointer q1,.pointer q2,.pointer q3,.pointer q4,.pointer q5,.pointer q6,.pointer q7]) (.int .i64 6)).run Tryz.prog w = .ok (.pointer q6) w:=fun w => run_index_fds w _ 6 q6 (by omega) rfl
 have x7 : ∀ w,(Instr.index 102 (.agg #[.pointer q0,.pointer q1,.pointer q2,.pointer q3,.pointer q4,.pointer q5,.pointer q6,.pointer q7]) (.int .i64 7)).run Tryz.prog w = .ok (.pointer q7) w:=fun w => run_index_fds w _ 7 q7 (by omega) rfl
 clear h hq
 go_enter Tryz.func113,Tryz.ntmps113
 go_wp2_with fail
 refine wp_loop_rounds 9 ?_
 rw [rounds_succ]
 cases b0 with
 | true =>
  obtain rfl:=n0 rfl
  clear n0 s0 n1 s1 n2 s2 n3 s3 n4 s4 n5 s5 n6 s6 n7 s7
  go_wp2_with fail
  go_ret
  exact ⟨ret_int HF.out.symm,rfl⟩
 | false =>
  obtain ⟨g0,rfl⟩:=s0 rfl
  clear n0 s0
  go_wp2_with fail
  rw [rounds_succ]
  cases b1 with
  | true =>
   obtain rfl:=n1 rfl
   clear n1 s1 n2 s2 n3 s3 n4 s4 n5 s5 n6 s6 n7 s7
   go_wp2_with fail
   go_ret
   exact ⟨ret_int HF.out.symm,rfl⟩
  | false =>
   obtain ⟨g1,rfl⟩:=s1 rfl
   clear n1 s1
   go_wp2_with fail
   rw [rounds_succ]
   cases b2 with
   | true =>
    obtain rfl:=n2 rfl
    clear n2 s2 n3 s3 n4 s4 n5 s5 n6 s6 n7 s7
    go_wp2_with fail
    go_ret
    exact ⟨ret_int HF.out.symm,rfl⟩
   | false =>
    obtain ⟨g2,rfl⟩:=s2 rfl
    clear n2 s2
    go_wp2_with fail
    rw [rounds_succ]
    cases b3 with
    | true =>
     obtain rfl:=n3 rfl
     clear n3 s3 n4 s4 n5 s5 n6 s6 n7 s7
     go_wp2_with fail
     go_ret
     exact ⟨ret_int HF.out.symm,rfl⟩
    | false =>
     obtain ⟨g3,rfl⟩:=s3 rfl
     clear n3 s3
     go_wp2_with fail
     rw [rounds_succ]
     cases b4 with
     | true =>
      obtain rfl:=n4 rfl
      clear n4 s4 n5 s5 n6 s6 n7 s7
      go_wp2_with fail
      go_ret
      exact ⟨ret_int HF.out.symm,rfl⟩
     | false =>
      obtain ⟨g4,rfl⟩:=s4 rfl
      clear n4 s4
      go_wp2_with fail
      rw [rounds_succ]
      cases b5 with
      | true =>
       obtain rfl:=n5 rfl
       clear n5 s5 n6 s6 n7 s7
       go_wp2_with fail
       go_ret
       exact ⟨ret_int HF.out.symm,rfl⟩
      | false =>
       obtain ⟨g5,rfl⟩:=s5 rfl
       clear n5 s5
       go_wp2_with fail
       rw [rounds_succ]
       cases b6 with
       | true =>
        obtain rfl:=n6 rfl
        clear n6 s6 n7 s7
        go_wp2_with fail
        go_ret
        exact ⟨ret_int HF.out.symm,rfl⟩
       | false =>
        obtain ⟨g6,rfl⟩:=s6 rfl
        clear n6 s6
        go_wp2_with fail
        rw [rounds_succ]
        cases b7 with
        | true =>
         obtain rfl:=n7 rfl
         clear n7 s7
         go_wp2_with fail
         go_ret
         exact ⟨ret_int HF.out.symm,rfl⟩
        | false =>
         obtain ⟨g7,rfl⟩:=s7 rfl
         clear n7 s7
         go_wp2_with fail
         rw [rounds_succ]
         go_wp2_with fail
         go_ret
         exact ⟨ret_int HF.out.symm,rfl⟩
end
section
open Go.RowKit Go.ChangeMaps Go.MapKept
abbrev TReply : TypeId:=36
def rpC (e n : Int) (d l : Value) (nd : Nd) : Array Value:=#[.int .i64 e,.int .i64 n,d,l,.int .i64 nd.id,.int .i64 nd.kind,.int .i64 nd.links,.int .i64 nd.size,.int .u64 (nd.til : Int),.bool nd.closed]
def rpZ : Array Value:=#[.int .i64 0,.int .i64 0,.slice none 0 0,.slice none 0 0,.int .i64 0,.int .i64 0,.int .i64 0,.int .i64 0,.int .u64 0,.bool false]
def noC (e n : Int) : Array Value:=#[.int .i64 e,.int .i64 n,.slice none 0 0,.slice none 0 0,.int .i64 0,.int .i64 0,.int .i64 0,.int .i64 0,.int .u64 0,.bool false]
theorem below_setRow {w : World} {g B : Nat} {a : World} {C : Array Value} (h : Below B a w) (hg : B <= g) : Below B a (w.setRow g C) :=
 h.trans ⟨rfl,rfl,rfl,by simp [World.setRow],fun k hk => setRow_other w g k C (by omega)⟩
theorem no_any (why : Nat) (w : World) :
  Calls Tryz.prog 45 #[.int .i64 (why : Int)] w fun e w' => e = .returned (.agg (noC why 0)) /\ Below w.heap.size w w':=by
 have hz:=qh (heap_alloc_new w (.cells (noC why 0) TReply))
 have hb:=qh ((Below.refl w.heap.size w).alloc (Nat.le_refl _) (.cells (noC why 0) TReply))
 go_enter Tryz.func45,Tryz.ntmps45
 go_wp2_with fail
 refine bodyPost_ret (v:=.agg (noC why 0)) ?_ rfl ⟨rfl,hb.out⟩
 exact results_cell_row rfl _ _ w.heap.size TReply _ (0,0) _ rfl hz.out Tryz.underlying36 rfl (by kernel_rfl)
variable {w w' : World} {L B C s t sn c : Nat} {fp : Nat -> Option Nat} {σ : StM}
theorem StIn.setTree (h : StIn w L B C s t sn fp σ) (hCB : C <= B) (hB : B <= w.heap.size) (hc : TChg B w w') {T' : Tr} (hT : TreeAt w' L B t T') : StIn w' L B C s t sn fp ⟨T',σ.S,σ.now,σ.fds⟩:=by
 have hty : ∀ k C ty fr,w.heap[k]? = some (.cells C ty fr) -> ty ≠ TItem -> ¬ TM w B k:=fun k C ty fr hk hne ⟨_,h2⟩ => by
  rcases h2 with ⟨C',fr',h2⟩ | ⟨es,cl,h2⟩
  ·rw [hk] at h2; injection h2 with h2; injection h2 with _ h2; exact hne h2
  ·rw [hk] at h2; injection h2 with h2; cases h2
 have hown : ∀ {v : Value} {xs : List UInt8},Own w L v xs -> Own w' L v xs:=fun {v xs} ho => Chg.own hc ho (fun k hk => by
  rcases ho.parts with ⟨rfl,rfl⟩ | ⟨g,cap,rfl,hB,hr⟩
  ·simp [Value.ownBlock] at hk
  ·have : g = k:=by simpa [Value.ownBlock] using hk
   subst this
   obtain ⟨cur,h1,_⟩:=hr
   exact hty g _ _ _ h1 (by decide))
 have hbel : Below B w w':=hc.below hB
 refine ⟨h.sge,(hc.block s h.lt (hty _ _ _ _ h.cel (by decide))).trans h.cel,hT,?_,h.no,fun i o hi ho => ?_⟩
 ·obtain ⟨h0,lv,av,hs,h1,h2,h3,h4,h5⟩:=h.snaps
  refine ⟨h0,lv,av,hs,(hc.block sn (Array.getElem?_eq_some_iff.1 h1).1 (hty _ _ _ _ h1 (by decide))).trans h1,hown h2,h3,?_,fun i i1 i2 => ?_⟩
  ·refine ⟨h4.1,?_⟩
   rcases h4.2 with h4 | ⟨g,cap,cur,k5,k6,k7,k8⟩
   ·exact .inl h4
   ·exact .inr ⟨g,cap,cur,k5,k6,(hc.block g (Array.getElem?_eq_some_iff.1 k7).1 (hty _ _ _ _ k7 (by decide))).trans k7,k8⟩
  ·obtain ⟨k1,w0,k2,k3,k4⟩:=h5 i i1 i2
   exact ⟨hown k1,w0,k2,k3.trans (hbel.mono hCB),k4⟩
 ·obtain ⟨g,h1,h2,v,h3,h4⟩:=h.fd i o hi ho
  exact ⟨g,h1,h2,v,(hc.block g (Array.getElem?_eq_some_iff.1 h3).1 (hty _ _ _ _ h3 (by decide))).trans h3,hown h4⟩
def updF {α : Type} (f : Nat -> α) (i : Nat) (x : α) (j : Nat) : α:=if j = i then x else f j
theorem StIn.setFd (h : StIn w L B C s t sn fp σ) (hLB : L <= B) (hCB : C <= B) (i : Nat) (hi : i < 8) (g : Option Nat) (o : Option Opn) (hg : match o with | none => g = none | some o => ∃ b,g = some b /\ L <= b /\ OpnAt w L b o) :
  StIn (w.setCell ⟨s,3 + i,none⟩ (.pointer (g.map fun b => ⟨b,0,none⟩))) L B C s t sn (updF fp i g) ⟨σ.T,σ.S,σ.now,updF σ.fds i o⟩:=by
 have hc : Chg (fun k => k = s) w (w.setCell ⟨s,3 + i,none⟩ (.pointer (g.map fun b => ⟨b,0,none⟩))):=chg_set w s (3 + i) _
 have hty : ∀ k C ty fr,w.heap[k]? = some (.cells C ty fr) -> ty ≠ TState -> k ≠ s:=fun k C ty fr hk hne e => by
  rw [e,h.cel] at hk; injection hk with hk; injection hk with _ hk; exact hne hk.symm
 have hown : ∀ {v : Value} {xs : List UInt8},Own w L v xs -> Own (w.setCell ⟨s,3 + i,none⟩ (.pointer (g.map fun b => ⟨b,0,none⟩))) L v xs:=fun {v xs} ho => hc.own ho (fun k hk => by
  rcases ho.parts with ⟨rfl,rfl⟩ | ⟨g',cap,rfl,hB,hr⟩
  ·simp [Value.ownBlock] at hk
  ·have : g' = k:=by simpa [Value.ownBlock] using hk
   subst this
   obtain ⟨cur,h1,_⟩:=hr
   exact hty g' _ _ _ h1 (by decide))
 have hal : ∀ k,k < w.heap.size -> k = s -> k < L ∨ Alien w k:=fun k _ e => .inr ⟨fun C ty fr hC => (by rw [e,h.cel] at hC; injection hC with hC; injection hC with _ hC; rw [<- hC]; decide),fun es cl hm => by rw [e,h.cel] at hm; injection hm with hm; cases hm⟩
 have hcel : (w.setCell ⟨s,3 + i,none⟩ (.pointer (g.map fun b => ⟨b,0,none⟩))).heap[s]? = some (.cells (stC t sn σ.now (updF fp i g)) TState (0,0)):=by
  rw [setCell_heap h.cel]
  have hi' : i = 0 ∨ i = 1 ∨ i = 2 ∨ i = 3 ∨ i = 4 ∨ i = 5 ∨ i = 6 ∨ i = 7:=by omega
  rcases hi' with rfl | rfl | rfl | rfl | rfl | rfl | rfl | rfl <;> rfl
 refine ⟨h.sge,hcel,?_,?_,fun j hj h0 => ?_,fun j o' hj ho => ?_⟩
 ·obtain ⟨mb,F,G,hT⟩:=h.tree
  exact ⟨mb,F,G,hT.alien hLB hc hal⟩
 ·obtain ⟨h0,lv,av,hs,h1,h2,h3,h4,h5⟩:=h.snaps
  refine ⟨h0,lv,av,hs,(hc.block sn (Array.getElem?_eq_some_iff.1 h1).1 (hty _ _ _ _ h1 (by decide))).trans h1,hown h2,h3,?_,fun i i1 i2 => ?_⟩
  ·refine ⟨h4.1,?_⟩
   rcases h4.2 with h4 | ⟨g',cap,cur,k5,k6,k7,k8⟩
   ·exact .inl h4
   ·exact .inr ⟨g',cap,cur,k5,k6,(hc.block g' (Array.getElem?_eq_some_iff.1 k7).1 (hty _ _ _ _ k7 (by decide))).trans k7,k8⟩
  ·obtain ⟨k1,w0,k2,k3,k4⟩:=h5 i i1 i2
   exact ⟨hown k1,w0,k2,k3.setCell (by have:=h.sge; show C <= s; omega) _,k4⟩
 ·by_cases e : j = i
  ·subst e
   have h1 : o = none:=(if_pos rfl).symm.trans h0
   subst h1
   exact (if_pos rfl).trans hg
  ·have h1 : σ.fds j = none:=(if_neg e).symm.trans h0
   exact (if_neg e).trans (h.no j hj h1)
 ·by_cases e : j = i
  ·subst e
   have h1 : o = some o':=(if_pos rfl).symm.trans ho
   subst h1
   obtain ⟨b,h1,h2,v,h3,h4⟩:=hg
   exact ⟨b,(if_pos rfl).trans h1,h2,v,(hc.block b (Array.getElem?_eq_some_iff.1 h3).1 (hty _ _ _ _ h3 (by decide))).trans h3,hown h4⟩
  ·have h0 : σ.fds j = some o':=(if_neg e).symm.trans ho
   obtain ⟨b,h1,h2,v,h3,h4⟩:=h.fd j o' hj h0
   exact ⟨b,(if_neg e).trans h1,h2,v,(hc.block b (Array.getElem?_eq_some_iff.1 h3).1 (hty _ _ _ _ h3 (by decide))).trans h3,hown h4⟩
def Fr (B : Nat) (w w' : World) : Prop:=Below B w w' /\ ∀ (k : Nat) (C : Array Value) (fr : Nat × Nat),w.heap[k]? = some (.cells C TReply fr) -> w'.heap[k]? = some (.cells C TReply fr)
theorem Fr.size {B : Nat} {w w' : World} (h : Fr B w w') : w.heap.size <= w'.heap.size:=h.1.size
theorem Fr.of {B : Nat} {w w' : World} (h : Below w.heap.size w w') (hB : B <= w.heap.size) : Fr B w w':=⟨h.mono hB,fun k _ _ hk => (h.block k (Array.getElem?_eq_some_iff.1 hk).1).trans hk⟩
theorem Fr.trans {B : Nat} {a b c : World} (h : Fr B a b) (k : Fr B b c) : Fr B a c:=⟨h.1.trans k.1,fun i C fr hi => k.2 i C fr (h.2 i C fr hi)⟩
theorem Fr.tchg {B : Nat} {w w' : World} (h : TChg B w w') (hB : B <= w.heap.size) : Fr B w w':=⟨h.below hB,fun k C fr hk => (h.block k (Array.getElem?_eq_some_iff.1 hk).1 (fun ⟨_,h2⟩ => by
 rcases h2 with ⟨C',fr',h2⟩ | ⟨es,cl,h2⟩
 ·rw [hk] at h2; injection h2 with h2; injection h2 with _ h2; exact absurd h2 (by decide)
 ·rw [hk] at h2; injection h2 with h2; cases h2)).trans hk⟩
theorem Fr.setCell {B s i : Nat} {w w' : World} (h : Fr B w w') (hs : B <= s) {C : Array Value} {fr : Nat × Nat} (hc : w'.heap[s]? = some (.cells C TState fr)) (v : Value) : Fr B w (w'.setCell ⟨s,i,none⟩ v) :=
 ⟨h.1.setCell (p:=⟨s,i,none⟩) hs v,fun k C2 fr2 hk => (Below.heap_setCell _ _ _ _ (fun e => by
  have:=h.2 k C2 fr2 hk
  rw [e] at this
  rw [show (⟨s,i,none⟩ : Addr).block = s from rfl,hc] at this
  injection this with this; injection this with _ this; exact absurd this (by decide))).trans (h.2 k C2 fr2 hk)⟩
theorem Fr.setRow {B N : Nat} {w w' : World} (h : Fr B w w') (hB : B <= N) (hN : w.heap.size <= N) (C' : Array Value) : Fr B w (w'.setRow N C') :=
 ⟨below_setRow h.1 hB,fun k C fr hk => (setRow_other w' N k C' (by have:=(Array.getElem?_eq_some_iff.1 hk).1; omega)).trans (h.2 k C fr hk)⟩
end
section
open Go.RowKit Go.ChangeMaps Go.MapKept
variable {w w' : World} {L B C s t sn c : Nat} {fp : Nat -> Option Nat} {σ : StM}
theorem makeT_no (c : Nat) (T : Tr) (p : List (List UInt8)) (kind : Nat) (h : (makeT c T p kind).2.1 ≠ 0) : (makeT c T p kind).2.2 = T:=by
 unfold makeT at h ⊢
 by_cases h1 : fineP p ≠ 0
 ·rw [if_pos h1]
 rw [if_neg h1] at h ⊢
 by_cases h2 : (placeT T p).2 ≠ 0
 ·rw [if_pos h2]
 rw [if_neg h2] at h ⊢
 cases hx : getK (placeT T p).1 T with
 | none => rfl
 | some x =>
  simp only [hx] at h ⊢
  by_cases h3 : (getK (p.getLast?.getD []) x.names).isSome
  ·rw [if_pos h3]
  rw [if_neg h3] at h ⊢
  by_cases h4 : 64 <= T.length
  ·rw [if_pos h4]
  rw [if_neg h4] at h ⊢
  exact absurd rfl h
theorem StIn.setReply (h : StIn w L B C s t sn fp σ) (hLB : L <= B) (hCB : C <= B) {N : Nat} {X C' : Array Value} (hN : B <= N) (hz : w.heap[N]? = some (.cells X TReply (0,0))) : StIn (w.setRow N C') L B C s t sn fp σ:=by
 have hc : Chg (fun k => k = N) w (w.setRow N C'):=⟨rfl,rfl,rfl,by simp [World.setRow],fun k _ hk => setRow_other w N k C' hk⟩
 have hal : ∀ k,k < w.heap.size -> k = N -> k < L ∨ AlienS w k:=fun k _ e => .inr ⟨fun C ty fr hC => (by rw [e,hz] at hC; injection hC with hC; injection hC with _ hC; rw [<- hC]; decide),fun es cl hm => by rw [e,hz] at hm; injection hm with hm; cases hm⟩
 have hal2 : ∀ k,k < w.heap.size -> k = N -> k < L ∨ Alien w k:=fun k hk e => (hal k hk e).imp id AlienS.alien
 have hty : ∀ k C ty fr,w.heap[k]? = some (.cells C ty fr) -> ty ≠ TReply -> k ≠ N:=fun k C ty fr hk hne e => by
  rw [e,hz] at hk; injection hk with hk; injection hk with _ hk; exact hne hk.symm
 refine ⟨h.sge,(hc.block s h.lt (hty _ _ _ _ h.cel (by decide))).trans h.cel,?_,?_,h.no,fun i o hi ho => ?_⟩
 ·obtain ⟨mb,F,G,hT⟩:=h.tree
  exact ⟨mb,F,G,hT.alien hLB hc hal2⟩
 ·obtain ⟨h0,lv,av,hs,h1,h2,h3,h4,h5⟩:=h.snaps
  refine ⟨h0,lv,av,hs,(hc.block sn (Array.getElem?_eq_some_iff.1 h1).1 (hty _ _ _ _ h1 (by decide))).trans h1,h2.alien hc hal2,h3,?_,fun i i1 i2 => ?_⟩
  ·refine ⟨h4.1,?_⟩
   rcases h4.2 with h4 | ⟨g',cap,cur,k5,k6,k7,k8⟩
   ·exact .inl h4
   ·exact .inr ⟨g',cap,cur,k5,k6,(hc.block g' (Array.getElem?_eq_some_iff.1 k7).1 (hty _ _ _ _ k7 (by decide))).trans k7,k8⟩
  ·obtain ⟨k1,w0,k2,k3,k4⟩:=h5 i i1 i2
   exact ⟨k1.alien hc hal2,w0,k2,k3.trans ⟨rfl,rfl,rfl,by simp [World.setRow],fun k hk => setRow_other w N k C' (by omega)⟩,k4⟩
 ·obtain ⟨g,h1,h2,v,h3,h4⟩:=h.fd i o hi ho
  exact ⟨g,h1,h2,v,(hc.block g (Array.getElem?_eq_some_iff.1 h3).1 (hty _ _ _ _ h3 (by decide))).trans h3,h4.alien hc hal2⟩
def createS (c : Nat) (σ : StM) (p : List (List UInt8)) : StM × Nat × Int :=
 if freeS σ < 0 then (σ,25,0)
 else if (makeT c σ.T p 1).2.1 ≠ 0 then (σ,(makeT c σ.T p 1).2.1,0)
 else (⟨(makeT c σ.T p 1).2.2,σ.S,σ.now,updF σ.fds (freeS σ).toNat (some ⟨true,(makeT c σ.T p 1).1,[]⟩)⟩,0,freeS σ)
theorem create_any (h : StIn w L B C s t sn fp σ) (ok : TrOk c σ.T) (hc : c <= 60000) (hLB : L <= B) (hCB : C <= B) (hB : B <= w.heap.size) (a : Option Addr) (n cap : Nat) (p : List (List UInt8)) (hS : Ss w a n cap p) (hm : ∀ s ∈ p,s.length <= 1000000) (hn : n <= 100000) :
  Calls Tryz.prog 46 #[.pointer (some ⟨s,0,none⟩),.slice a n cap] w fun e w' => e = .returned (.agg (noC (createS c σ p).2.1 (createS c σ p).2.2)) /\ (∃ fp',StIn w' L B C s t sn fp' (createS c σ p).1) /\ Fr B w w':=by
 obtain ⟨w0,hw0⟩:=qnm (w.alloc (.cells rpZ TReply))
 have hb0:=qba hw0
 have hz0 : w0.heap[w.heap.size]? = some (.cells rpZ TReply (0,0)):=by rw [hw0]; exact heap_alloc_new w _
 have hlt0 : w.heap.size < w0.heap.size:=by rw [hw0]; simp
 have h0:=h.below (Nat.le_trans hCB hB) hb0
 have hS0:=hS.below hb0
 have HFR:=qh (free_any h0)
 have hB0 : B <= w0.heap.size:=Nat.le_trans hB hb0.size
 have hfo:=freeS_ok σ.fds 8 0
 obtain ⟨q,hq⟩:=qnm (freeS σ)
 rw [<- hq] at HFR
 have hfo' : q = -1 ∨ ∃ j : Nat,q = (j : Int) /\ j < 8:=by
  rw [hq]
  rcases hfo with h | ⟨j,h1,_,h2,_⟩
  ·exact .inl h
  ·exact .inr ⟨j,h1,by omega⟩
 obtain ⟨r,hr⟩:=qnm (makeT c σ.T p 1)
 have hcs : createS c σ p = if q < 0 then (σ,25,0) else if r.2.1 ≠ 0 then (σ,r.2.1,0) else (⟨r.2.2,σ.S,σ.now,updF σ.fds q.toNat (some ⟨true,r.1,[]⟩)⟩,0,q):=by rw [hq,hr]; rfl
 have hno:=makeT_no c σ.T p 1
 rw [<- hr] at hno
 have HM:=qh (show ∀ W mb F G,TreeIn W L B t mb F G σ.T -> Below w0.heap.size w0 W -> _ from fun W mb F G hT hb => make_any (w:=W) hT ok hc a n cap p (hS0.below hb) hm hn 1 (.inl rfl))
 rw [<- hr] at HM
 have HCS:=qh hcs
 have HNO:=qh hno
 have H0:=qh h0
 have HW0:=qh hw0
 have HB0:=qh (aI hb0 (aI hB0 hB))
 have HZ0:=qh hz0
 have c0 : w0.cell? ⟨s,0,none⟩ = some (.pointer (some ⟨t,0,none⟩)):=cells_at h0.cel 0
 have HLT0:=qh hlt0
 clear h hS h0 hS0 ok hm hb0 hB0 hfo hq hr hcs hno hw0 hz0 hlt0
 go_enter Tryz.func46,Tryz.ntmps46
 go_upto_region 1 with fail
 have HWX:=qh HW0.out
 unfold rpZ at HWX
 rw [<- HWX.out]
 obtain ⟨N,hN⟩:=qnm w.heap.size
 rw [<- hN] at HZ0 HLT0 ⊢
 have HN:=qh hN
 clear hN HWX HW0
 go_wp2_with fail
 refine HFR.out.mono ?_
 rintro e w1 ⟨rfl,rfl⟩
 rcases hfo' with rfl | ⟨j,rfl,hj⟩
 ·have HNN:=qh (no_any 25 w0)
  have HR:=qh (show createS c σ p = (σ,25,0) by rw [HCS.out,if_pos (by decide)])
  go_wp2_with fail
  refine HNN.out.mono ?_
  rintro e w2 ⟨rfl,hb2⟩
  have hz2:=(hb2.block N HLT0.out).trans HZ0.out
  have HF:=qh (aI (H0.out.below (Nat.le_trans hCB HB0.out.2.1) hb2) (aI hz2 (aI hb2 HLT0.out)))
  unfold noC
  clear hb2
  go_wp2_with (refine wpList_store_row rfl TReply (.tmp 4) (.tmp 12) rfl N (noC 25 0) rfl rfl TReply rpZ hz2 (by kernel_rfl) (by kernel_rfl) (by kernel_rfl) ?_)
  refine bodyPost_ret (v:=.agg (noC 25 0)) (results_cell_row rfl _ _ N TReply _ (0,0) _ rfl (setRow_heap _ _ _ _ TReply (0,0) hz2) Tryz.underlying36 rfl (by kernel_rfl)) rfl ?_
  rw [HR.out]
  have hBN : B <= N:=by rw [HN.out]; exact HB0.out.2.2
  have hbw : Fr B w w2:=(Fr.of HB0.out.1 HB0.out.2.2).trans (Fr.of HF.out.2.2.1 HB0.out.2.1)
  exact ⟨rfl,⟨fp,HF.out.1.setReply hLB hCB hBN hz2⟩,hbw.setRow hBN (by rw [HN.out]; exact Nat.le_refl _) _⟩
 ·have hjn : ¬ (j : Int) < 0:=by omega
  obtain ⟨mb,F,G,hT⟩:=H0.out.tree
  have HMM:=qh (HM.out w0 mb F G hT (Below.refl _ _))
  clear hT
  go_wp2_with fail
  refine HMM.out.mono ?_
  rintro e w2 ⟨rfl,⟨F2,G2,hT2⟩,hC2⟩
  have hz2 : w2.heap[N]? = some (.cells rpZ TReply (0,0)):=(hC2.block N HLT0.out (fun ⟨_,h⟩ => by
   rcases h with ⟨C',fr',h⟩ | ⟨es,cl,h⟩
   ·rw [HZ0.out] at h; injection h with h; injection h with _ h; exact absurd h (by decide)
   ·rw [HZ0.out] at h; injection h with h; cases h)).trans HZ0.out
  have hS2 : StIn w2 L B C s t sn fp ⟨r.2.2,σ.S,σ.now,σ.fds⟩:=H0.out.setTree hCB HB0.out.2.1 hC2 ⟨_,_,_,hT2⟩
  have hb02 : Fr B w w2:=(Fr.of HB0.out.1 HB0.out.2.2).trans (Fr.tchg hC2 HB0.out.2.1)
  have hsz2:=hC2.size
  have HS2:=qh (aI hS2 (aI hb02 (Nat.lt_of_lt_of_le HLT0.out hsz2)))
  have HZ2:=qh hz2
  clear hT2 hC2 hS2 hb02 hsz2 hz2 HMM HM c0
  obtain ⟨id,why,T2⟩:=r
  simp only at HS2 HCS HNO
  unfold MakeV
  simp only
  by_cases hw : why = 0
  ·subst hw
   have HR:=qh (show createS c σ p = (⟨T2,σ.S,σ.now,updF σ.fds j (some ⟨true,id,[]⟩)⟩,0,(j : Int)) by rw [HCS.out,if_neg (by omega),if_neg (by simp)]; rfl)
   have hba:=(Below.refl w2.heap.size w2).alloc (Nat.le_refl _) (.cells #[.bool true,.int .i64 (id : Int),.slice none 0 0] TOpen)
   have hS3:=HS2.out.1.below (by have:=HS2.out.2.1.size; omega) hba
   have hop : OpnAt (w2.alloc (.cells #[.bool true,.int .i64 (id : Int),.slice none 0 0] TOpen)) L w2.heap.size ⟨true,id,[]⟩:=⟨_,heap_alloc_new w2 _,Own.nil _ _⟩
   have hS4:=hS3.setFd hLB hCB j hj (some w2.heap.size) (some ⟨true,id,[]⟩) ⟨_,rfl,by have:=HS2.out.2.1.size; omega,hop⟩
   have c3:=hS3.fdcell j hj
   have f3:=frz_of hS3.cel (3 + j)
   have hz3:=(hba.block N HS2.out.2.2).trans HZ2.out
   have hNs : N ≠ s:=fun e => by
    have:=hS3.cel
    rw [<- e,hz3] at this; injection this with this; injection this with _ this; exact absurd this (by decide)
   have hz4 : ((w2.alloc (.cells #[.bool true,.int .i64 (id : Int),.slice none 0 0] TOpen)).setCell ⟨s,3 + j,none⟩ (.pointer (some ⟨w2.heap.size,0,none⟩))).heap[N]? = some (.cells rpZ TReply (0,0)):=(Below.heap_setCell _ _ _ _ hNs).trans hz3
   have hb4 : Fr B w ((w2.alloc (.cells #[.bool true,.int .i64 (id : Int),.slice none 0 0] TOpen)).setCell ⟨s,3 + j,none⟩ (.pointer (some ⟨w2.heap.size,0,none⟩))) :=
    (HS2.out.2.1.trans (Fr.of hba (Nat.le_trans HB0.out.2.2 HS2.out.2.1.size))).setCell hS3.sge hS3.cel _
   have HF:=qh (aI hS4 hb4)
   have g1 : (0 : Int) <= (j : Int):=by omega
   have g2 : (j : Int) < 8:=by omega
   clear hS3 hop hS4 hba hNs hz3 hb4
   unfold fdV at c3
   go_wp2_with (refine wpList_store_row rfl TReply (.tmp 4) (.tmp 35) rfl N (noC 0 (j : Int)) rfl rfl TReply rpZ hz4 (by kernel_rfl) (by kernel_rfl) (by kernel_rfl) ?_)
   refine bodyPost_ret (v:=.agg (noC 0 (j : Int))) (results_cell_row rfl _ _ N TReply _ (0,0) _ rfl (setRow_heap _ _ _ _ TReply (0,0) hz4) Tryz.underlying36 rfl (by kernel_rfl)) rfl ?_
   rw [HR.out]
   have hBN : B <= N:=by rw [HN.out]; exact HB0.out.2.2
   exact ⟨rfl,⟨_,HF.out.1.setReply hLB hCB hBN hz4⟩,HF.out.2.setRow hBN (by rw [HN.out]; exact Nat.le_refl _) _⟩
  ·have hw1 : ¬ (why : Int) = 0:=by omega
   obtain rfl : T2 = σ.T:=HNO.out hw
   have HR:=qh (show createS c σ p = (σ,why,0) by rw [HCS.out,if_neg (by omega),if_pos hw])
   have HNN:=qh (no_any why w2)
   clear hw
   go_wp2_with fail
   refine HNN.out.mono ?_
   rintro e w3 ⟨rfl,hb3⟩
   have hz3:=(hb3.block N HS2.out.2.2).trans HZ2.out
   have HF:=qh (aI (HS2.out.1.below (by have:=HS2.out.2.1.size; omega) hb3) (HS2.out.2.1.trans (Fr.of hb3 (Nat.le_trans HB0.out.2.2 HS2.out.2.1.size))))
   unfold noC
   clear hb3
   go_wp2_with (refine wpList_store_row rfl TReply (.tmp 4) (.tmp 25) rfl N (noC (why : Int) 0) rfl rfl TReply rpZ hz3 (by kernel_rfl) (by kernel_rfl) (by kernel_rfl) ?_)
   refine bodyPost_ret (v:=.agg (noC (why : Int) 0)) (results_cell_row rfl _ _ N TReply _ (0,0) _ rfl (setRow_heap _ _ _ _ TReply (0,0) hz3) Tryz.underlying36 rfl (by kernel_rfl)) rfl ?_
   rw [HR.out]
   have hBN : B <= N:=by rw [HN.out]; exact HB0.out.2.2
   exact ⟨rfl,⟨fp,HF.out.1.setReply hLB hCB hBN hz3⟩,HF.out.2.setRow hBN (by rw [HN.out]; exact Nat.le_refl _) _⟩
end
section
open Go.RowKit Go.ChangeMaps Go.MapKept
abbrev TOp : TypeId:=39
variable {w w' : World} {L B C s t sn c : Nat} {fp : Nat -> Option Nat} {σ : StM}
theorem sealT_no (T : Tr) (i u : Nat) (h : (sealT T i u).1 ≠ 0) : (sealT T i u).2 = T:=by
 unfold sealT at h ⊢
 by_cases h1 : fileT T i ≠ 0
 ·rw [if_pos h1]
 rw [if_neg h1] at h ⊢
 cases hx : getK i T with
 | none => rfl
 | some x =>
  simp only [hx] at h ⊢
  by_cases h3 : x.n.closed = true
  ·rw [if_pos h3]
  rw [if_neg h3] at h ⊢
  by_cases h4 : MTn < u
  ·rw [if_pos h4]
  rw [if_neg h4] at h ⊢
  exact absurd rfl h
def readsS (σ : StM) (n : Int) : Bool:=if 0 <= n /\ n < 8 then (match σ.fds n.toNat with | some o => !o.wr | none => false) else false
theorem readsS_miss (σ : StM) (n : Int) (h : readsS σ n = false) : ∀ (k : Nat) o,n = (k : Int) -> k < 8 -> σ.fds k = some o -> o.wr ≠ false:=by
 intro k o hn hk ho hw
 subst hn
 unfold readsS at h
 rw [if_pos ⟨by omega,by omega⟩] at h
 simp [ho,hw] at h
theorem readsS_hit (σ : StM) (n : Int) (h : readsS σ n = true) : ∃ (k : Nat) (o : Opn),n = (k : Int) /\ k < 8 /\ σ.fds k = some o /\ o.wr = false:=by
 unfold readsS at h
 by_cases hn : 0 <= n /\ n < 8
 ·rw [if_pos hn] at h
  cases ho : σ.fds n.toNat with
  | none => rw [ho] at h; cases h
  | some o => rw [ho] at h; exact ⟨n.toNat,o,by omega,by omega,ho,by simpa using h⟩
 ·rw [if_neg hn] at h; cases h
def closeS (σ : StM) (n : Int) (u : Nat) : StM × Nat :=
 if writesS σ n = true then (match σ.fds n.toNat with
  | none => (σ,26)
  | some o => if (sealT σ.T o.id u).1 ≠ 0 then (σ,(sealT σ.T o.id u).1) else (⟨(sealT σ.T o.id u).2,σ.S,σ.now,updF σ.fds n.toNat none⟩,0))
 else if readsS σ n = true then (⟨σ.T,σ.S,σ.now,updF σ.fds n.toNat none⟩,0) else (σ,26)
theorem close_any (h : StIn w L B C s t sn fp σ) (ok : TrOk c σ.T) (hfd : ∀ i o,i < 8 -> σ.fds i = some o -> o.id <= 1000000) (hLB : L <= B) (hCB : C <= B) (hB : B <= w.heap.size)
  (k : Int) (ps ts : ByteArray) (fd at_ n : Int) (til : Nat) (sp : Int) (da : Option Addr) (dl dc : Nat) :
  Calls Tryz.prog 51 #[.pointer (some ⟨s,0,none⟩),.agg (ovCells k ps ts fd at_ n til sp da dl dc)] w fun e w' => e = .returned (.int .i64 ((closeS σ fd til).2 : Int)) /\ (∃ fp',StIn w' L B C s t sn fp' (closeS σ fd til).1) /\ Fr B w w':=by
 obtain ⟨w0,hw0⟩:=qnm (w.alloc (.cells (ovCells k ps ts fd at_ n til sp da dl dc) TOp))
 have hb0:=qba hw0
 have hz0 : w0.heap[w.heap.size]? = some (.cells (ovCells k ps ts fd at_ n til sp da dl dc) TOp (0,0)):=by rw [hw0]; exact heap_alloc_new w _
 have h0:=h.below (Nat.le_trans hCB hB) hb0
 have hB0 : B <= w0.heap.size:=Nat.le_trans hB hb0.size
 have o3 : w0.cell? ⟨w.heap.size,3,none⟩ = some (.int .i64 fd):=cells_at hz0 3
 have o6 : w0.cell? ⟨w.heap.size,6,none⟩ = some (.int .u64 (til : Int)):=cells_at hz0 6
 have c0 : w0.cell? ⟨s,0,none⟩ = some (.pointer (some ⟨t,0,none⟩)):=cells_at h0.cel 0
 have HB0:=qh (aI hb0 (aI hB0 hB))
 have H0:=qh h0
 have HZ0:=qh hz0
 have HW0:=qh hw0
 have HOK:=qh (aI ok hfd)
 have HLT0:=qh (show w.heap.size < w0.heap.size by rw [hw0]; simp)
 clear h h0 hb0 hz0 hB0 hw0 ok hfd
 go_enter Tryz.func51,Tryz.ntmps51
 go_upto_region 1 with fail
 rw [<- HW0.out]
 obtain ⟨N,hN⟩:=qnm w.heap.size
 rw [<- hN] at HZ0 HLT0 o3 o6 ⊢
 have HN:=qh hN
 clear hN HW0
 cases hwr : writesS σ fd with
 | true =>
  obtain ⟨j,o,rfl,hj,ho,how⟩:=writesS_hit σ fd hwr
  have HFD:=qh (fd_hit H0.out j hj o ho true how)
  have hcs : closeS σ (j : Int) til = if (sealT σ.T o.id til).1 ≠ 0 then (σ,(sealT σ.T o.id til).1) else (⟨(sealT σ.T o.id til).2,σ.S,σ.now,updF σ.fds j none⟩,0):=by
   unfold closeS
   rw [if_pos hwr]
   have : ((j : Int)).toNat = j:=by omega
   rw [this,ho]
  have HCS:=qh hcs
  have hid:=HOK.out.2 j o hj ho
  have HNO:=qh (sealT_no σ.T o.id til)
  have HSL:=qh (show ∀ mb F G,TreeIn w0.drew L B t mb F G σ.T -> _ from fun mb F G hT => tseal_any (w:=w0.drew) hT HOK.out.1 o.id til hid)
  have HHJ:=qh hj
  clear hcs hwr ho how hid
  go_wp2_with fail
  refine HFD.out.mono ?_
  rintro e w1 ⟨⟨g,rfl,hg,hO⟩,rfl⟩
  obtain ⟨ov,hO1,hO2⟩:=hO
  have d1 : w0.cell? ⟨g,1,none⟩ = some (.int .i64 (o.id : Int)):=cells_at hO1 1
  obtain ⟨mb,F,G,hT⟩:=H0.out.tree
  have HSS:=qh (HSL.out mb F G (hT.below (Below.refl _ w0).drew))
  clear hO1 hO2 hT HSL hg
  go_upto_region 3 with fail
  refine wp_tailb 10 (by kernel_rfl) (by kernel_rfl) rfl ?_
  simp only [List.take_succ_cons,List.take_zero,List.drop_succ_cons,List.drop_zero,List.map_cons,List.map_nil,bare]
  repeat still_step
  refine wpStill_nil ?_
  go_wp2_with fail
  refine HSS.out.mono ?_
  rintro e w2 ⟨rfl,hT2,hC2⟩
  have hnt : ∀ C' ty fr k,w0.drew.heap[k]? = some (.cells C' ty fr) -> ty ≠ TItem -> ¬ TM w0.drew B k:=fun C' ty fr k hk hne ⟨_,h⟩ => by
   rcases h with ⟨C2,fr2,h⟩ | ⟨es,cl,h⟩
   ·rw [hk] at h; injection h with h; injection h with _ h; exact hne h
   ·rw [hk] at h; injection h with h; cases h
  have hz2 : w2.heap[N]? = some (.cells (ovCells k ps ts (j : Int) at_ n til sp da dl dc) TOp (0,0)):=(hC2.block N HLT0.out (hnt _ _ _ N HZ0.out (by decide))).trans HZ0.out
  have hS2 : StIn w2 L B C s t sn fp ⟨(sealT σ.T o.id til).2,σ.S,σ.now,σ.fds⟩:=(H0.out.below (Nat.le_trans hCB HB0.out.2.1) (Below.refl _ w0).drew).setTree hCB HB0.out.2.1 hC2 ⟨_,_,_,hT2⟩
  have hb02 : Fr B w w2:=((Fr.of HB0.out.1 HB0.out.2.2).trans (Fr.of (Below.refl _ w0).drew HB0.out.2.1)).trans (Fr.tchg hC2 HB0.out.2.1)
  have HS2:=qh (aI hS2 hb02)
  have HZ2:=qh hz2
  clear hT2 hC2 hS2 hb02 HSS d1 c0 o3 o6 hnt
  generalize sealT σ.T o.id til = r at *
  obtain ⟨why,T2⟩:=r
  simp only at HS2 HCS HNO ⊢
  by_cases hw : why = 0
  ·subst hw
   have HR:=qh (show closeS σ (j : Int) til = (⟨T2,σ.S,σ.now,updF σ.fds j none⟩,0) by rw [HCS.out,if_neg (by simp)])
   have o3 : w2.cell? ⟨N,3,none⟩ = some (.int .i64 (j : Int)):=cells_at hz2 3
   have hS2d:=HS2.out.1.below (by have:=HS2.out.2.size; omega) (Below.refl _ w2).drew
   have hj:=HHJ.out
   have c3:=HS2.out.1.fdcell j hj
   unfold fdV at c3
   have f3:=frz_of HS2.out.1.cel (3 + j)
   have hS4:=hS2d.setFd hLB hCB j hj none none rfl
   have hb4 : Fr B w (w2.drew.setCell ⟨s,3 + j,none⟩ (.pointer none)):=(HS2.out.2.trans (Fr.of (Below.refl _ w2).drew (by have:=HS2.out.2.size; omega))).setCell hS2d.sge hS2d.cel _
   have HF:=qh (aI hS4 hb4)
   have g1 : (0 : Int) <= (j : Int):=by omega
   have g2 : (j : Int) < 8:=by omega
   clear hS2d hS4 hb4 hz2
   go_upto_region 9 with fail
   refine wp_tailb 6 (by kernel_rfl) (by kernel_rfl) rfl ?_
   simp only [List.take_succ_cons,List.take_zero,List.drop_succ_cons,List.drop_zero,List.map_cons,List.map_nil,bare]
   repeat still_step
   refine wpStill_nil ?_
   go_wp2_with fail
   go_ret
   rw [HR.out]
   exact ⟨rfl,⟨_,HF.out.1⟩,HF.out.2⟩
  ·have hw1 : ¬ (why : Int) = 0:=by omega
   obtain rfl : T2 = σ.T:=HNO.out hw
   have HR:=qh (show closeS σ (j : Int) til = (σ,why) by rw [HCS.out,if_pos hw])
   clear hw hz2
   go_wp2_with fail
   go_ret
   rw [HR.out]
   exact ⟨rfl,⟨fp,HS2.out.1⟩,HS2.out.2⟩
 | false =>
  have HFD:=qh (fd_miss H0.out fd true (writesS_miss σ fd hwr))
  cases hrd : readsS σ fd with
  | true =>
   obtain ⟨j,o,rfl,hj,ho,how⟩:=readsS_hit σ fd hrd
   have HFD2:=qh (fd_hit H0.out j hj o ho false how)
   have HR:=qh (show closeS σ (j : Int) til = (⟨σ.T,σ.S,σ.now,updF σ.fds j none⟩,0) by
    unfold closeS
    have : ((j : Int)).toNat = j:=by omega
    rw [if_neg (by rw [hwr]; simp),if_pos hrd,this])
   have hS2d:=H0.out.below (by have:=HB0.out.2.1; omega) (Below.refl _ w0).drew
   have c3:=H0.out.fdcell j hj
   unfold fdV at c3
   have f3:=frz_of H0.out.cel (3 + j)
   have hS4:=hS2d.setFd hLB hCB j hj none none rfl
   have hb4 : Fr B w (w0.drew.setCell ⟨s,3 + j,none⟩ (.pointer none)):=((Fr.of HB0.out.1 HB0.out.2.2).trans (Fr.of (Below.refl _ w0).drew HB0.out.2.1)).setCell hS2d.sge hS2d.cel _
   have HF:=qh (aI hS4 hb4)
   have g1 : (0 : Int) <= (j : Int):=by omega
   have g2 : (j : Int) < 8:=by omega
   clear hS2d hS4 hb4 hwr hrd ho how
   go_wp2_with fail
   refine HFD.out.mono ?_
   rintro e w1 ⟨rfl,rfl⟩
   go_wp2_with fail
   refine HFD2.out.mono ?_
   rintro e w1 ⟨⟨g,rfl,_⟩,rfl⟩
   go_upto_region 9 with fail
   refine wp_tailb 6 (by kernel_rfl) (by kernel_rfl) rfl ?_
   simp only [List.take_succ_cons,List.take_zero,List.drop_succ_cons,List.drop_zero,List.map_cons,List.map_nil,bare]
   repeat still_step
   refine wpStill_nil ?_
   go_wp2_with fail
   go_ret
   rw [HR.out]
   exact ⟨rfl,⟨_,HF.out.1⟩,HF.out.2⟩
  | false =>
   have HFD2:=qh (fd_miss H0.out fd false (readsS_miss σ fd hrd))
   have HR:=qh (show closeS σ fd til = (σ,26) by
    unfold closeS
    rw [if_neg (by rw [hwr]; simp),if_neg (by rw [hrd]; simp)])
   clear hwr hrd
   go_wp2_with fail
   refine HFD.out.mono ?_
   rintro e w1 ⟨rfl,rfl⟩
   go_wp2_with fail
   refine HFD2.out.mono ?_
   rintro e w1 ⟨rfl,rfl⟩
   go_wp2_with fail
   go_ret
   rw [HR.out]
   exact ⟨rfl,⟨fp,H0.out⟩,Fr.of HB0.out.1 HB0.out.2.2⟩
end
end Go.Proofs.YtabdcphioccgnaaGreatDoor
