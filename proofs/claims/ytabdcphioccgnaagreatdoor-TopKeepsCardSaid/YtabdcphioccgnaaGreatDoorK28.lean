/- StPaths; StNode; StLook. -/
import Derived.Test.YtabdcphioccgnaaGreatDoorK27
set_option maxRecDepth 100000
set_option maxHeartbeats 8000000
namespace Go.Proofs.YtabdcphioccgnaaGreatDoor
section
open Go.RowKit Go.ChangeMaps Go.MapKept
abbrev TPS : TypeId:=109
def pathsT : List (List UInt8) -> List (List (List UInt8)) × Nat
 | [] => ([],0)
 | x :: r => if (pathSplit x).2 ≠ 0 then ([],(pathSplit x).2) else if (pathsT r).2 ≠ 0 then ([],(pathsT r).2) else ((pathSplit x).1 :: (pathsT r).1,0)
theorem pathsT_app : ∀ (l r : List (List UInt8)),pathsT (l ++ r) = if (pathsT l).2 = 0 then (if (pathsT r).2 = 0 then ((pathsT l).1 ++ (pathsT r).1,0) else ([],(pathsT r).2)) else ([],(pathsT l).2)
 | [],r => by
  have hr : (pathsT r).2 ≠ 0 -> (pathsT r).1 = []:=by
   intro h
   cases r with
   | nil => exact absurd rfl h
   | cons y r =>
    unfold pathsT at h ⊢
    by_cases h1 : (pathSplit y).2 ≠ 0
    ·rw [if_pos h1]
    ·rw [if_neg h1] at h ⊢
     by_cases h2 : (pathsT r).2 ≠ 0
     ·rw [if_pos h2]
     ·rw [if_neg h2] at h; exact absurd rfl h
  have h0 : (pathsT []).2 = 0:=rfl
  have h1 : (pathsT []).1 = []:=rfl
  rw [if_pos h0,h1,List.nil_append,List.nil_append]
  by_cases h : (pathsT r).2 = 0
  ·rw [if_pos h,<- h]
  ·rw [if_neg h,<- hr h]
 | x :: l,r => by
  have e : pathsT ((x :: l) ++ r) = if (pathSplit x).2 ≠ 0 then ([],(pathSplit x).2) else if (pathsT (l ++ r)).2 ≠ 0 then ([],(pathsT (l ++ r)).2) else ((pathSplit x).1 :: (pathsT (l ++ r)).1,0):=rfl
  have e2 : pathsT (x :: l) = if (pathSplit x).2 ≠ 0 then ([],(pathSplit x).2) else if (pathsT l).2 ≠ 0 then ([],(pathsT l).2) else ((pathSplit x).1 :: (pathsT l).1,0):=rfl
  rw [e,e2,pathsT_app l r]
  by_cases h1 : (pathSplit x).2 = 0
  ·by_cases h2 : (pathsT l).2 = 0
   ·by_cases h3 : (pathsT r).2 = 0
    ·simp [h1,h2,h3]
    ·simp [h1,h2,h3]
   ·simp [h1,h2]
  ·simp [h1]
theorem pathsT_one (x : List UInt8) : pathsT [x] = if (pathSplit x).2 ≠ 0 then ([],(pathSplit x).2) else ([(pathSplit x).1],0):=by
 unfold pathsT
 by_cases h : (pathSplit x).2 ≠ 0
 ·simp only [if_pos h]
 ·simp only [if_neg h,pathsT]; simp
theorem pathsT_len : ∀ (l : List (List UInt8)),(pathsT l).2 = 0 -> (pathsT l).1.length = l.length
 | [],_ => rfl
 | x :: r,h => by
  unfold pathsT at h ⊢
  by_cases h1 : (pathSplit x).2 ≠ 0
  ·rw [if_pos h1] at h; exact absurd h h1
  ·rw [if_neg h1] at h ⊢
   by_cases h2 : (pathsT r).2 ≠ 0
   ·rw [if_pos h2] at h; exact absurd h h2
   ·rw [if_neg h2]
    have:=pathsT_len r (by omega)
    simp [this]
def OwnP (w : World) (B : Nat) (v : Value) (ps : List (List (List UInt8))) : Prop :=
 ∃ vs,w.ownsRow B TSS 1 v ps.length vs /\ ∀ i (h : i < ps.length),∃ a n c,vs[i]? = some (.slice a n c) /\ Ss w a n c ps[i] /\ TyS w a
theorem OwnP.nil (w : World) (B : Nat) : OwnP w B (.slice none 0 0) []:=⟨[],World.ownsRow_nil w B TSS 1,fun i h => by simp at h⟩
theorem OwnP.below {w w' : World} {B : Nat} {v : Value} {ps : List (List (List UInt8))} (h : OwnP w B v ps) (hb : Below w.heap.size w w') : OwnP w' B v ps:=by
 obtain ⟨vs,h1,h2⟩:=h
 refine ⟨vs,World.ownsRow.kept h1 (row:=none) ⟨hb.os,hb.tape,hb.output,hb.size,fun k hk _ => hb.block k hk⟩ (by cases v.ownBlock <;> simp),fun i hi => ?_⟩
 obtain ⟨a,n,c,h3,h4,h5⟩:=h2 i hi
 exact ⟨a,n,c,h3,h4.below hb,h5.below hb⟩
theorem OwnP.lt {w : World} {B : Nat} {v : Value} {ps : List (List (List UInt8))} (h : OwnP w B v ps) : ∀ k,v.ownBlock = some k -> B <= k /\ k < w.heap.size:=by
 obtain ⟨vs,h1,_⟩:=h
 exact World.ownsRow.lt h1
theorem OwnP.ty {w : World} {B : Nat} {v : Value} {ps : List (List (List UInt8))} (h : OwnP w B v ps) : ∀ k,v.ownBlock = some k -> ∃ C fr,w.heap[k]? = some (.cells C TSS fr):=by
 obtain ⟨vs,h1,_⟩:=h
 intro k hk
 rcases h1.2 with ⟨rfl,_⟩ | ⟨g,cap,cur,rfl,_,hz,_⟩
 ·simp [Value.ownBlock] at hk
 ·have : g = k:=by simpa [Value.ownBlock] using hk
  subst this
  exact ⟨_,_,hz⟩
theorem OwnP.head {w : World} {B : Nat} {v : Value} {p : List (List UInt8)} {ps : List (List (List UInt8))} (h : OwnP w B v (p :: ps)) :
  ∃ g cap a n c,v = .slice (some ⟨g,0,none⟩) (p :: ps).length cap /\ w.cell? ⟨g,0,none⟩ = some (.slice a n c) /\ Ss w a n c p:=by
 obtain ⟨vs,h1,h2⟩:=h
 obtain ⟨a,n,c,h3,h4,_⟩:=h2 0 (by simp)
 rcases h1.2 with ⟨_,h0⟩ | ⟨g,cap,cur,rfl,_,hz,_,_,hs,ht⟩
 ·simp at h0
 ·refine ⟨g,cap,a,n,c,rfl,?_,h4⟩
  rw [cells_at hz 0]
  rw [<- ht,List.getElem?_take,if_pos (by simp)] at h3
  simpa using h3
theorem ss_grown {w w' : World} {a : Option Addr} {n c : Nat} {ls : List (List UInt8)} {row : Option Nat} (h : Ss w a n c ls) (ht : TyS w a) (hg : w.grownBy w' row) (hr : ∀ k,row = some k -> ∃ C fr,w.heap[k]? = some (.cells C TSS fr)) : Ss w' a n c ls /\ TyS w' a:=by
 have hne : ∀ p,a = some p -> row ≠ some p.block:=fun p hp e => by
  obtain ⟨C,fr,h1⟩:=ht p hp
  obtain ⟨C2,fr2,h2⟩:=hr _ e
  rw [h1] at h2; injection h2 with h2; injection h2 with _ h2; exact absurd h2 (by decide)
 refine ⟨⟨h.1,h.2.1,h.2.2.1,?_⟩,fun p hp => ?_⟩
 ·rcases h.2.2.2 with h4 | ⟨b,off,rfl,h5,h6⟩
  ·exact .inl h4
  ·exact .inr ⟨b,off,rfl,Nat.lt_of_lt_of_le h5 hg.size,fun i hi => hg.cell (h6 i hi) (fun e => hne _ rfl e.symm)⟩
 ·obtain ⟨C,fr,h1⟩:=ht p hp
  exact ⟨C,fr,(hg.block _ (Array.getElem?_eq_some_iff.1 h1).1 (fun e => hne p hp (by first | exact e | exact e.symm))).trans h1⟩
theorem infoTSS : (Tryz.prog.info? TSS).map (fun i => (i.zero,i.size,i.bytes)) = some (some (.slice none 0 0),1,24):=by kernel_rfl
theorem run_append_p1 {w : World} (B : Nat) (v : Value) (ps : List (List (List UInt8))) (h : OwnP w B v ps) (a : Option Addr) (n c : Nat) (q : List (List UInt8)) (hq : Ss w a n c q) (hty : TyS w a) (ty : TypeId) (hlen : ps.length + 1 <= 1000000) (hbase : B <= w.heap.size) :
  ∃ v' w',(Builtin.append_ #[TPS,TPS] ty #[v,.slice (some ⟨w.heap.size,0,none⟩) 1 1]).run Tryz.prog (w.alloc (.cells #[.slice a n c] TSS)) = .ok v' w' /\ OwnP w' B v' (ps ++ [q]) /\
   (w.alloc (.cells #[.slice a n c] TSS)).grownBy w' v.ownBlock:=by
 obtain ⟨i,hi,hz0,hz1,hz2⟩:=info_any infoTSS
 have hba:=(Below.refl _ w).alloc (Nat.le_refl _) (.cells #[.slice a n c] TSS)
 have h':=h.below hba
 have hty':=h'.ty
 obtain ⟨vs,h1,h2⟩:=h'
 obtain ⟨v',w',k1,k2,k3,_,_⟩:=run_append_own_at (P:=Tryz.prog) (w.alloc (.cells #[.slice a n c] TSS)) B TPS ty TSS i (.slice none 0 0) 1 24 Tryz.underlying109 hi hz0 hz1 hz2 rfl (by decide) v ps.length vs
  h1 ⟨w.heap.size,0,none⟩ 1 1 [.slice a n c] (by simp) (fun j u hu => by
   match j,hu with
   | 0,hu =>
    simp at hu
    subst hu
    rw [show (⟨w.heap.size,0,none⟩ : Addr).add 0 = ⟨w.heap.size,0,none⟩ from rfl,World.cell?_alloc_mark]
    rfl
   | j + 1,hu => simp at hu) (by
   intro u hu
   simp at hu
   subst hu
   rfl) (by unfold maxLen; omega) (by omega) (by simp; omega)
 refine ⟨v',w',k1,⟨vs ++ [.slice a n c],?_,fun j hj => ?_⟩,k3⟩
 ·simpa using k2
 ·have hvl : vs.length = ps.length:=by simpa using h1.1
  by_cases e : j < ps.length
  ·obtain ⟨a2,n2,c2,e1,e2,e3⟩:=h2 j e
   obtain ⟨f1,f2⟩:=ss_grown e2 e3 k3 hty'
   refine ⟨a2,n2,c2,?_,?_,f2⟩
   ·rw [List.getElem?_append_left (by omega)]; exact e1
   ·rw [List.getElem_append_left e]; exact f1
  ·have hje : j = ps.length:=by simp at hj; omega
   obtain ⟨f1,f2⟩:=ss_grown (hq.below hba) (hty.below hba) k3 hty'
   refine ⟨a,n,c,?_,?_,f2⟩
   ·rw [List.getElem?_append_right (by omega),show j - vs.length = 0 by omega]; rfl
   ·rw [List.getElem_append_right (by omega)]
    simpa using f1
theorem wpList_append_p1 {w : World} {ops : Array Oper} {rest : List Oper} {o : Oper} {a : Act} {Q : Exit -> Act -> World -> Prop} (hgd : o.guard = none) (s x : Operand)
  (ho : o.op = .call { callee:=.builtin .append,args:=#[s,x],argTypes:=#[TPS,TPS] }) (hx : a.eval x = .slice (some ⟨w.heap.size,0,none⟩) 1 1)
  (B : Nat) (v : Value) (ps : List (List (List UInt8))) (hs : a.eval s = v) (h : OwnP w B v ps) (ad : Option Addr) (n c : Nat) (q : List (List UInt8)) (hq : Ss w ad n c q) (hty : TyS w ad) (hlen : ps.length + 1 <= 1000000) (hbase : B <= w.heap.size)
  (hh : ∀ v' w',OwnP w' B v' (ps ++ [q]) -> (w.alloc (.cells #[.slice ad n c] TSS)).grownBy w' v.ownBlock -> wpList Tryz.prog ops Q rest (a.put o.dst v') w') :
  wpList Tryz.prog ops Q (o :: rest) a (w.alloc (.cells #[.slice ad n c] TSS)):=by
 refine wpList_plain hgd fun _ hK => ?_
 obtain ⟨v',w',hr,h2,h3⟩:=run_append_p1 B v ps h ad n c q hq hty o.type hlen hbase
 unfold Oper.wp execOp
 simp only [ho,resolve,invoke,builtin,Sem.run_bind,Sem.run_pure,Result.andThen_ok,List.map_toArray,List.map_cons,List.map_nil,hs,hx,hr]
 exact hK _ _ (hh v' w' h2 h3)
def pathsOf (k : Nat) (p t : List UInt8) : List (List UInt8):=if k = 7 ∨ k = 10 then [p,t] else if k = 1 ∨ k = 2 ∨ k = 3 ∨ k = 8 ∨ k = 9 ∨ k = 11 ∨ k = 12 ∨ k = 13 then [p] else []
theorem pathsOf_len (k : Nat) (p t : List UInt8) : (pathsOf k p t).length <= 2:=by
 unfold pathsOf; split
 ·simp
 ·split <;> simp
theorem ss_lit1 (w : World) (p : List UInt8) : Ss (w.alloc (.cells #[.string (strOf p)] TST)) (some ⟨w.heap.size,0,none⟩) 1 1 [p] :=
 ⟨rfl,Nat.le_refl _,by unfold maxLen; omega,.inr ⟨w.heap.size,0,rfl,by simp,fun i hi => by
  obtain rfl : i = 0:=by simp at hi; omega
  rw [World.cell?_alloc_mark]; rfl⟩⟩
theorem ss_lit2 (w : World) (p t : List UInt8) : Ss (w.alloc (.cells #[.string (strOf p),.string (strOf t)] TST)) (some ⟨w.heap.size,0,none⟩) 2 2 [p,t] :=
 ⟨rfl,Nat.le_refl _,by unfold maxLen; omega,.inr ⟨w.heap.size,0,rfl,by simp,fun i hi => by
  have : i = 0 ∨ i = 1:=by simp at hi; omega
  rcases this with rfl | rfl <;> rw [World.cell?_alloc_mark] <;> rfl⟩⟩
theorem paths_any (s k : Nat) (hk : 1 <= k /\ k <= 17) (p t : List UInt8) (hp : p.length <= 1000000) (ht : t.length <= 1000000) (fd at_ n : Int) (til : Nat) (sp : Int) (da : Option Addr) (dl dc : Nat) (w : World) (hg : Glob w) :
  Calls Tryz.prog 44 #[.pointer (some ⟨s,0,none⟩),.agg (ovCells (k : Int) (strOf p) (strOf t) fd at_ n til sp da dl dc)] w fun e w' =>
   (∃ v,e = .returned (.tuple #[v,.int .i64 ((pathsT (pathsOf k p t)).2 : Int)]) /\ OwnP w' w.heap.size v (pathsT (pathsOf k p t)).1) /\ Below w.heap.size w w':=by
 obtain ⟨ls,hls⟩:=qnm (pathsOf k p t)
 rw [<- hls]
 have HLS:=qh hls
 clear hls
 obtain ⟨w0,hw0⟩:=qnm (w.alloc (.cells (ovCells (k : Int) (strOf p) (strOf t) fd at_ n til sp da dl dc) TOp))
 have hz0 : w0.heap[w.heap.size]? = some (.cells (ovCells (k : Int) (strOf p) (strOf t) fd at_ n til sp da dl dc) TOp (0,0)):=by rw [hw0]; exact heap_alloc_new w _
 have hE0 : Ext w.heap.size w w0:=by rw [hw0]; exact (Ext.refl w).alloc _
 have o0 : w0.cell? ⟨w.heap.size,0,none⟩ = some (.int .i64 (k : Int)):=cells_at hz0 0
 have o1 : w0.cell? ⟨w.heap.size,1,none⟩ = some (.string (strOf p)):=cells_at hz0 1
 have o2 : w0.cell? ⟨w.heap.size,2,none⟩ = some (.string (strOf t)):=cells_at hz0 2
 have HW0:=qh hw0
 have HE0:=qh hE0
 have HG:=qh hg
 have HL:=qh (aI hp ht)
 have HK:=qh hk
 clear hz0 hw0 hE0 hp ht hg hk
 go_enter Tryz.func44,Tryz.ntmps44
 go_upto_region 2 with fail
 rw [<- HW0.out]
 obtain ⟨N,hN⟩:=qnm w.heap.size
 rw [<- hN] at HE0 o0 o1 o2 ⊢
 have HN:=qh hN
 clear hN HW0
 go_cut [13] (fun x wx => x = .int .i64 (k : Int) /\ wx = w0)
 case first =>
  go_wp2_with fail
  go_meet
  exact ⟨rfl,rfl⟩
 case rest =>
 obtain ⟨rfl,rfl⟩:=hcut
 go_step
 go_cut [6] (fun x wx => ∃ a m c,x = .slice a m c /\ Ss wx a m c ls /\ Ext N w wx)
 case first =>
  have hk:=HK.out
  obtain rfl | rfl | rfl | rfl | rfl | rfl | rfl | rfl | rfl | rfl | rfl | rfl | rfl | rfl | rfl | rfl | rfl : k = 1 ∨ k = 2 ∨ k = 3 ∨ k = 4 ∨ k = 5 ∨ k = 6 ∨ k = 7 ∨ k = 8 ∨ k = 9 ∨ k = 10 ∨ k = 11 ∨ k = 12 ∨ k = 13 ∨ k = 14 ∨ k = 15 ∨ k = 16 ∨ k = 17:=by omega
  all_goals clear hk
  all_goals go_wp2_with fail
  all_goals go_meet
  all_goals rw [HLS.out]
  all_goals first | exact ⟨_,_,_,rfl,ss_lit1 _ p,HE0.out.alloc _⟩ | exact ⟨_,_,_,rfl,ss_lit2 _ p t,HE0.out.alloc _⟩ | exact ⟨_,_,_,rfl,Ss.nil _,HE0.out⟩
 case rest =>
  obtain ⟨a,m,c,rfl,hS,hE⟩:=hcut
  have hlm : ∀ s ∈ ls,s.length <= 1000000:=by
   have h1:=HL.out.1
   have h2:=HL.out.2
   intro s hs
   rw [HLS.out] at hs
   unfold pathsOf at hs
   split at hs
   ·simp at hs; rcases hs with rfl | rfl <;> assumption
   ·split at hs
    ·simp at hs; subst hs; assumption
    ·simp at hs
  have hll : ls.length <= 2:=by rw [HLS.out]; exact pathsOf_len k p t
  have hG : Glob wc:=HG.out.below ((by have:=hE.1; rw [HN.out] at this; exact this))
  have hlen:=hS.1
  have HR:=qh (aI hS (aI hG (aI hlm (aI hll hlen))))
  have hNw : N <= wc.heap.size:=hE.2
  have hE' : Below w.heap.size w wc:=by have:=hE.1; rw [HN.out] at this; exact this
  have HE:=qh (aI hE' hNw)
  have hm2 : m <= 2:=by omega
  clear hS hE hE' hG hlm hll hlen HE0 o0 o1 o2 HK HL HG HLS hNw
  have hat : ∀ i,i < m -> ∃ b off,a = some ⟨b,off,none⟩ /\ b < wc.heap.size /\ ∃ s,ls[i]? = some s /\ wc.cell? ⟨b,off + i,none⟩ = some (.string (strOf s)):=fun i hi => by
   obtain ⟨b,off,h1,h2,h3⟩:=HR.out.1.at (by omega)
   have hil : i < ls.length:=by have:=HR.out.2.2.2.2; omega
   exact ⟨b,off,h1,h2,ls[i],by simp [hil],h3 i hil⟩
  have HAT:=qh hat
  clear hat
  go_upto_region 25 with fail
  go_loopw [7,44] (fun out i wr => ∃ (j : Nat) (ps : List (List (List UInt8))),j <= m /\ i = .int .i64 (j : Int) /\ OwnP wr wc.heap.size out ps /\ pathsT (ls.take j) = (ps,0) /\ Ext wc.heap.size wc wr) (fun _ i _ => m - (intOf i).toNat)
  case atStart => exact ⟨0,[],by omega,rfl,OwnP.nil _ _,rfl,Ext.refl wc⟩
  case round =>
   obtain ⟨j,ps,hj,rfl,hO,hps,hE⟩:=hrel
   by_cases hlt : j < m
   ·obtain ⟨b,off,rfl,hb,x,hx,hc⟩:=HAT.out j hlt
    have hc1:=hE.cel hb hc
    have HX:=qh (aI hx hps)
    have hxl : x.length <= 1000000:=HR.out.2.2.1 x (List.mem_of_getElem? hx)
    have HSP:=qh (split_any x hxl wr (HR.out.2.1.below hE.1))
    have HO:=qh (aI hO hE)
    have e1 : (j : Int) < (m : Int):=by omega
    obtain ⟨j2,hj2⟩:=qnm (j + 1)
    have e3 : IntKind.i64.wrap ((j : Int) + 1) = (j2 : Int):=by rw [IntWalk.i64_in _ (by omega)]; omega
    have HJ:=qh (aI hj2 hj)
    have hpl:=pathsT_len (ls.take j) (by rw [hps])
    have HPL:=qh (show ps.length <= 2 by rw [hps] at hpl; simp at hpl; omega)
    clear hx hxl hO hE hps hb hc hj2 hj hpl
    go_wp2_with fail
    refine HSP.out.mono ?_
    rintro e w1 ⟨⟨qa,qn,qc,rfl,⟨hS1,hT1⟩,_⟩,hb1⟩
    have HS1:=qh (aI hS1 (aI hT1 hb1))
    have hpt : pathsT (ls.take (j + 1)) = if (pathSplit x).2 = 0 then (ps ++ [(pathSplit x).1],0) else ([],(pathSplit x).2):=by
     rw [List.take_add_one,HX.out.1]
     simp only [Option.toList_some]
     rw [pathsT_app,HX.out.2,pathsT_one]
     by_cases h : (pathSplit x).2 = 0 <;> simp [h]
    have HPT:=qh hpt
    clear hS1 hT1 hb1 hpt
    generalize pathSplit x = r at *
    obtain ⟨q,why⟩:=r
    simp only at HS1 HPT ⊢
    by_cases hw : why = 0
    ·subst hw
     have hO2:=HO.out.1.below HS1.out.2.2
     have hE2:=HO.out.2.step HS1.out.2.2
     go_wp2_with (at_builtin; refine wpList_append_p1 rfl _ _ rfl rfl wc.heap.size _ ps rfl hO2 qa qn qc q HS1.out.1 HS1.out.2.1 (by have:=HPL.out; omega) hE2.2 ?_; intro v' w' hO' hg')
     go_roundw
     case rel =>
      refine ⟨j2,_,by have:=HJ.out; omega,rfl,hO',?_,Ext.grown (hE2.alloc _) hg' (fun k hk => (hO2.lt k hk).1)⟩
      rw [HJ.out.1,HPT.out]; simp
     case measure =>
      have:=HJ.out
      show m - (j2 : Int).toNat < m - (j : Int).toNat
      omega
    ·have hw1 : ¬ (why : Int) = 0:=by omega
     have HW:=qh hw
     clear hw
     go_wp2_with fail
     go_ret2
     have hfin : pathsT ls = ([],why):=by
      have e : ls = ls.take (j + 1) ++ ls.drop (j + 1):=(List.take_append_drop _ _).symm
      rw [e,pathsT_app,HPT.out]
      simp [HW.out]
     rw [hfin]
     exact ⟨⟨_,rfl,OwnP.nil _ _⟩,HE.out.1.trans ((HO.out.2.1.trans (HS1.out.2.2.mono HO.out.2.2)).mono (by have:=HE.out.2; rw [HN.out] at this; exact this))⟩
   ·obtain rfl : j = m:=by omega
    have hfin : pathsT ls = (ps,0):=by rw [<- hps,List.take_of_length_le (by have:=HR.out.2.2.2.2; omega)]
    have HF:=qh (aI hfin (aI hO hE))
    clear hfin hO hE hps hlt hj
    go_wp2_with fail
    go_ret2
    rw [HF.out.1]
    have hge : w.heap.size <= wc.heap.size:=by have:=HE.out.2; rw [HN.out] at this; exact this
    obtain ⟨vs,h1,h2⟩:=HF.out.2.1
    refine ⟨⟨_,rfl,vs,⟨h1.1,?_⟩,h2⟩,HE.out.1.trans (HF.out.2.2.1.mono hge)⟩
    rcases h1.2 with h4 | ⟨g,cap,cur,h5,h6,h7⟩
    ·exact .inl h4
    ·exact .inr ⟨g,cap,cur,h5,Nat.le_trans hge h6,h7⟩
end
section
open Go.RowKit Go.ChangeMaps Go.MapKept
abbrev TNode : TypeId:=34
variable {w w' : World} {L B C s t sn c : Nat} {fp : Nat -> Option Nat} {σ : StM}
def nodeS (T : Tr) (p : List (List UInt8)) : Nd × Nat:=if (lookP T p).2 ≠ 0 then (zeroNd,(lookP T p).2) else match getK (lookP T p).1 T with | some x => (x.n,0) | none => (zeroNd,20)
theorem lookP_ok {c : Nat} {T : Tr} (h : TrOk c T) (p : List (List UInt8)) (h0 : (lookP T p).2 = 0) : ∃ x,getK (lookP T p).1 T = some x:=by
 unfold lookP at h0 ⊢
 by_cases hf : fineP p ≠ 0
 ·rw [if_pos hf] at h0; exact absurd h0 hf
 ·rw [if_neg hf] at h0 ⊢
  exact lookT_ok h p 0 (by obtain ⟨x,hx,_⟩:=h.root; exact ⟨x,hx⟩) h0
theorem stnode_any (h : StIn w L B C s t sn fp σ) (ok : TrOk c σ.T) (hc : c <= 60000) (hC : C <= w.heap.size) (a : Option Addr) (n cap : Nat) (p : List (List UInt8)) (hS : Ss w a n cap p) (hm : ∀ s ∈ p,s.length <= 1000000) :
  Calls Tryz.prog 125 #[.pointer (some ⟨s,0,none⟩),.slice a n cap] w fun e w' => e = .returned (.tuple #[.agg (nodeS σ.T p).1.cells,.int .i64 ((nodeS σ.T p).2 : Int)]) /\ Below w.heap.size w w':=by
 obtain ⟨w0,hw0⟩:=qnm (w.alloc (.cells zeroC TNode))
 have hb0:=qba hw0
 have hz0 : w0.heap[w.heap.size]? = some (.cells zeroC TNode (0,0)):=by rw [hw0]; exact heap_alloc_new w _
 have h0:=h.below hC hb0
 obtain ⟨mb,F,G,hT⟩:=h0.tree
 have HLK:=qh (Look_any hT ok hc a n cap p (hS.below hb0) hm)
 have hlo:=lookP_ok ok p
 have hns : nodeS σ.T p = if (lookP σ.T p).2 ≠ 0 then (zeroNd,(lookP σ.T p).2) else match getK (lookP σ.T p).1 σ.T with | some x => (x.n,0) | none => (zeroNd,20):=rfl
 have HT:=qh hT
 have HOK:=qh ok
 have c0 : w0.cell? ⟨s,0,none⟩ = some (.pointer (some ⟨t,0,none⟩)):=cells_at h0.cel 0
 have HSL:=qh h0.lt
 have HB0:=qh hb0
 have HZ0:=qh hz0
 have HW0:=qh hw0
 have HLT0:=qh (show w.heap.size < w0.heap.size by rw [hw0]; simp)
 generalize nodeS σ.T p = nd at *
 generalize lookP σ.T p = q at *
 have HNS:=qh (aI hns hlo)
 clear h h0 hb0 hz0 hw0 ok hT hS hm hns hlo
 obtain ⟨q1,q2⟩:=q
 simp only at HLK HNS
 go_enter Tryz.func125,Tryz.ntmps125
 go_upto_region 1 with fail
 have HWX:=qh HW0.out
 unfold zeroC at HWX
 rw [<- HWX.out]
 obtain ⟨N,hN⟩:=qnm w.heap.size
 rw [<- hN] at HZ0 HLT0 ⊢
 have HN:=qh hN
 clear hN HWX HW0
 go_wp2_with fail
 refine HLK.out.mono ?_
 rintro e w1 ⟨rfl,hb1⟩
 have c1:=(hb1.cell (p:=⟨s,0,none⟩) HSL.out).trans c0
 have HT1:=qh (HT.out.below hb1)
 have hz1:=(hb1.block N HLT0.out).trans HZ0.out
 have HB1:=qh (aI (HB0.out.trans (hb1.mono HB0.out.size)) (aI hz1 (Nat.lt_of_lt_of_le HLT0.out hb1.size)))
 clear hb1 c0
 by_cases hq : q2 = 0
 ·subst hq
  obtain ⟨x,hx⟩:=HNS.out.2 rfl
  have hnd : nd = (x.n,0):=by rw [HNS.out.1,if_neg (by simp)]; simp [hx]
  have hi:=(HOK.out.nd q1 x hx).1
  have HTN:=qh (tnode_any HT1.out q1 x hx (by omega))
  have HND:=qh hnd
  clear hnd hx hz1 hi
  go_wp2_with fail
  refine HTN.out.mono ?_
  rintro e w2 ⟨rfl,hb2⟩
  have hba:=(Below.refl w2.heap.size w2).alloc (Nat.le_refl _) (.cells #[.int .i64 x.n.id,.int .i64 x.n.kind,.int .i64 x.n.links,.int .i64 x.n.size,.int .u64 (x.n.til : Int),.bool x.n.closed] TNode)
  have hz2:=(hb2.block N HB1.out.2.2).trans HB1.out.2.1
  have hN2 : N < w2.heap.size:=Nat.lt_of_lt_of_le HB1.out.2.2 hb2.size
  have hz3:=(hba.block N hN2).trans hz2
  have hb12 : Below w.heap.size w w2:=HB1.out.1.trans (hb2.mono HB1.out.1.size)
  have hb13:=hb12.trans (hba.mono hb12.size)
  have hsr:=setRow_heap (w2.alloc (.cells #[.int .i64 x.n.id,.int .i64 x.n.kind,.int .i64 x.n.links,.int .i64 x.n.size,.int .u64 (x.n.til : Int),.bool x.n.closed] TNode)) N zeroC #[.int .i64 x.n.id,.int .i64 x.n.kind,.int .i64 x.n.links,.int .i64 x.n.size,.int .u64 (x.n.til : Int),.bool x.n.closed] TNode (0,0) hz3
  have HF:=qh (aI hsr (below_setRow (C:=#[.int .i64 x.n.id,.int .i64 x.n.kind,.int .i64 x.n.links,.int .i64 x.n.size,.int .u64 (x.n.til : Int),.bool x.n.closed]) hb13 (show w.heap.size <= N by rw [HN.out]; exact Nat.le_refl _)))
  have HZ3:=qh hz3
  unfold Nd.cells
  clear hb2 hba hz2 hN2 hb12 hb13 hsr
  go_wp2_with (refine wpList_store_row rfl TNode (.tmp 4) (.tmp 32) rfl N #[.int .i64 x.n.id,.int .i64 x.n.kind,.int .i64 x.n.links,.int .i64 x.n.size,.int .u64 (x.n.til : Int),.bool x.n.closed] rfl rfl TNode zeroC HZ3.out (by kernel_rfl) (by kernel_rfl) (by kernel_rfl) ?_)
  have hsr:=HF.out.1
  have g0 : _ = some (Value.int .i64 x.n.id):=cells_at hsr 0
  have g1 : _ = some (Value.int .i64 x.n.kind):=cells_at hsr 1
  have g2 : _ = some (Value.int .i64 x.n.links):=cells_at hsr 2
  have g3 : _ = some (Value.int .i64 x.n.size):=cells_at hsr 3
  have g4 : _ = some (Value.int .u64 (x.n.til : Int)):=cells_at hsr 4
  have g5 : _ = some (Value.bool x.n.closed):=cells_at hsr 5
  refine bodyPost_ret (v:=.tuple #[.agg #[.int .i64 x.n.id,.int .i64 x.n.kind,.int .i64 x.n.links,.int .i64 x.n.size,.int .u64 (x.n.til : Int),.bool x.n.closed],.int .i64 0]) (by simp [results,Tryz.results125,go_sem,g0,g1,g2,g3,g4,g5]) rfl ⟨by rw [HND.out]; rfl,HF.out.2⟩
 ·have hq1 : ¬ (q2 : Int) = 0:=by omega
  have HND:=qh (show nd = (zeroNd,q2) by rw [HNS.out.1,if_pos hq])
  have hsr:=setRow_heap w1 N zeroC zeroC TNode (0,0) hz1
  have HF:=qh (aI hsr (below_setRow (C:=zeroC) HB1.out.1 (show w.heap.size <= N by rw [HN.out]; exact Nat.le_refl _)))
  have HZ1:=qh hz1
  clear hq hz1 hsr
  go_wp2_with (refine wpList_store_row rfl TNode (.tmp 4) (.tmp 21) rfl N zeroC rfl rfl TNode zeroC HZ1.out (by kernel_rfl) (by kernel_rfl) (by kernel_rfl) ?_)
  have hsr:=HF.out.1
  have g0 : _ = some (Value.int .i64 0):=cells_at hsr 0
  have g1 : _ = some (Value.int .i64 0):=cells_at hsr 1
  have g2 : _ = some (Value.int .i64 0):=cells_at hsr 2
  have g3 : _ = some (Value.int .i64 0):=cells_at hsr 3
  have g4 : _ = some (Value.int .u64 0):=cells_at hsr 4
  have g5 : _ = some (Value.bool false):=cells_at hsr 5
  refine bodyPost_ret (v:=.tuple #[.agg #[.int .i64 0,.int .i64 0,.int .i64 0,.int .i64 0,.int .u64 0,.bool false],.int .i64 (q2 : Int)]) (by simp [results,Tryz.results125,go_sem,g0,g1,g2,g3,g4,g5]) rfl ⟨by rw [HND.out]; rfl,HF.out.2⟩
end
section
open Go.RowKit Go.ChangeMaps Go.MapKept
variable {w w' : World} {L B C s t sn c : Nat} {fp : Nat -> Option Nat} {σ : StM}
theorem at0_any (h : StIn w L B C s t sn fp σ) :
  Calls Tryz.prog 117 #[.pointer (some ⟨s,0,none⟩),.int .i64 0] w fun e w' => e = .returned (.tuple #[.pointer (some ⟨t,0,none⟩),.int .i64 0]) /\ w' = w:=by
 have c0 : w.cell? ⟨s,0,none⟩ = some (.pointer (some ⟨t,0,none⟩)):=cells_at h.cel 0
 clear h
 go_enter Tryz.func117,Tryz.ntmps117
 go_wp2_with fail
 go_ret2
 exact ⟨rfl,rfl⟩
theorem stat0_any (h : StIn w L B C s t sn fp σ) (ok : TrOk c σ.T) (hc : c <= 60000) (hCB : C <= B) (hB : B <= w.heap.size)
  (ps ts : ByteArray) (fd at_ n : Int) (til : Nat) (da : Option Addr) (dl dc : Nat) (a : Option Addr) (pn pc : Nat) (p : List (List UInt8)) (hS : Ss w a pn pc p) (hm : ∀ s ∈ p,s.length <= 1000000) :
  Calls Tryz.prog 56 #[.pointer (some ⟨s,0,none⟩),.agg (ovCells 12 ps ts fd at_ n til 0 da dl dc),.slice a pn pc] w fun e w' => e = .returned (.agg (rpC ((nodeS σ.T p).2 : Int) 0 (.slice none 0 0) (.slice none 0 0) (nodeS σ.T p).1)) /\ Below w.heap.size w w':=by
 obtain ⟨w1,hw1⟩:=qnm (w.alloc (.cells (ovCells 12 ps ts fd at_ n til 0 da dl dc) TOp))
 obtain ⟨w0,hw0⟩:=qnm (w1.alloc (.cells rpZ TReply))
 have hb1:=qba hw1
 have hb0':=qba hw0
 have hs1 : w1.heap.size = w.heap.size + 1:=by rw [hw1]; simp
 have hs0 : w0.heap.size = w.heap.size + 2:=by rw [hw0]; simp [hs1]
 have hb0 : Below w.heap.size w w0:=hb1.trans (hb0'.mono hb1.size)
 have hz1 : w0.heap[w.heap.size]? = some (.cells (ovCells 12 ps ts fd at_ n til 0 da dl dc) TOp (0,0)):=(hb0'.block _ (by omega)).trans (by rw [hw1]; exact heap_alloc_new w _)
 have hz0 : w0.heap[w1.heap.size]? = some (.cells rpZ TReply (0,0)):=by rw [hw0]; exact heap_alloc_new w1 _
 have h0:=h.below (Nat.le_trans hCB hB) hb0
 have o0 : w0.cell? ⟨w.heap.size,0,none⟩ = some (.int .i64 12):=cells_at hz1 0
 have o7 : w0.cell? ⟨w.heap.size,7,none⟩ = some (.int .i64 0):=cells_at hz1 7
 have HAT:=qh (at0_any h0)
 obtain ⟨mb,F,G,hT⟩:=h0.tree
 have HLK:=qh (Look_any hT ok hc a pn pc p (hS.below hb0) hm)
 have hlo:=lookP_ok ok p
 have hns : nodeS σ.T p = if (lookP σ.T p).2 ≠ 0 then (zeroNd,(lookP σ.T p).2) else match getK (lookP σ.T p).1 σ.T with | some x => (x.n,0) | none => (zeroNd,20):=rfl
 have HT:=qh hT
 have HOK:=qh ok
 generalize nodeS σ.T p = nd at *
 generalize lookP σ.T p = q at *
 have HNS:=qh (aI hns hlo)
 obtain ⟨q1,q2⟩:=q
 simp only at HLK HNS
 have HW0:=qh (aI hw0 hw1)
 obtain ⟨N,hN⟩:=qnm (w.heap.size + 1)
 rw [hs1] at hz0
 obtain ⟨M,hM⟩:=qnm w.heap.size
 rw [<- hN] at hz0
 rw [<- hM] at hz1 o0 o7
 have HB0:=qh (aI hb0 (aI hb0.size (aI (show w.heap.size <= N by omega) (show N < w0.heap.size by omega))))
 have HN:=qh (aI hN (aI hM hs1))
 have HZ0:=qh hz0
 have HM0:=qh (show M < w0.heap.size by omega)
 clear h h0 hb0 hb0' hb1 hz0 hw0 hw1 ok hT hS hm hns hlo hs1 hs0 hN hM hz1
 go_enter Tryz.func56,Tryz.ntmps56
 go_upto_region 1 with fail
 have HWX:=qh HW0.out
 unfold rpZ at HWX
 rw [<- HWX.out.2,<- HWX.out.1,<- HN.out.1,<- HN.out.2.1]
 clear HWX HW0
 go_wp2_with fail
 refine HAT.out.mono ?_
 rintro e w2 ⟨rfl,rfl⟩
 go_wp2_with fail
 refine HLK.out.mono ?_
 rintro e w3 ⟨rfl,hb3⟩
 have hB3:=HB0.out.1.trans (hb3.mono HB0.out.2.1)
 have o0':=(hb3.cell (p:=⟨M,0,none⟩) HM0.out).trans o0
 have HT3:=qh (HT.out.below hb3)
 have hz3:=(hb3.block N HB0.out.2.2.2).trans HZ0.out
 have HB3:=qh (aI hB3 (aI hz3 (Nat.lt_of_lt_of_le HB0.out.2.2.2 hb3.size)))
 clear hb3 hB3 hz3 o0 o7
 by_cases hq : q2 = 0
 ·subst hq
  obtain ⟨x,hx⟩:=HNS.out.2 rfl
  have hnd : nd = (x.n,0):=by rw [HNS.out.1,if_neg (by simp)]; simp [hx]
  have hi:=(HOK.out.nd q1 x hx).1
  have HTN:=qh (tnode_any HT3.out q1 x hx (by omega))
  have HND:=qh hnd
  clear hnd hx hi
  go_wp2_with fail
  refine HTN.out.mono ?_
  rintro e w4 ⟨rfl,hb4⟩
  have hba:=(Below.refl w4.heap.size w4).alloc (Nat.le_refl _) (.cells #[.int .i64 x.n.id,.int .i64 x.n.kind,.int .i64 x.n.links,.int .i64 x.n.size,.int .u64 (x.n.til : Int),.bool x.n.closed] TNode)
  have hz4:=(hb4.block N HB3.out.2.2).trans HB3.out.2.1
  have hN4 : N < w4.heap.size:=Nat.lt_of_lt_of_le HB3.out.2.2 hb4.size
  have hz5:=(hba.block N hN4).trans hz4
  have hB3s : w.heap.size <= w3.heap.size:=by have:=HB3.out.2.2; have:=HB0.out.2.2.1; omega
  have hb14 : Below w.heap.size w w4:=HB3.out.1.trans (hb4.mono hB3s)
  have hb15:=hb14.trans (hba.mono (Nat.le_trans hB3s hb4.size))
  have HF:=qh hb15
  unfold Nd.cells
  clear hb4 hba hz4 hN4 hb14 hb15 hB3s
  go_wp2_with (refine wpList_store_row rfl TReply (.tmp 6) (.tmp 44) rfl N (rpC 0 0 (.slice none 0 0) (.slice none 0 0) x.n) rfl rfl TReply rpZ hz5 (by kernel_rfl) (by kernel_rfl) (by kernel_rfl) ?_)
  refine bodyPost_ret (v:=.agg (rpC 0 0 (.slice none 0 0) (.slice none 0 0) x.n)) (results_cell_row rfl _ _ N TReply _ (0,0) _ rfl (setRow_heap _ _ _ _ TReply (0,0) hz5) Tryz.underlying36 rfl (by kernel_rfl)) rfl ?_
  rw [HND.out]
  exact ⟨rfl,below_setRow HF.out HB0.out.2.2.1⟩
 ·have hw1 : ¬ (q2 : Int) = 0:=by omega
  have HR:=qh (show nd = (zeroNd,q2) by rw [HNS.out.1,if_pos hq])
  have HNN:=qh (no_any q2 w3)
  clear hq
  go_wp2_with fail
  refine HNN.out.mono ?_
  rintro e w4 ⟨rfl,hb4⟩
  have hz4:=(hb4.block N HB3.out.2.2).trans HB3.out.2.1
  have hB3s : w.heap.size <= w3.heap.size:=by have:=HB3.out.2.2; have:=HB0.out.2.2.1; omega
  have HF:=qh (HB3.out.1.trans (hb4.mono hB3s))
  unfold noC
  clear hb4 hB3s
  go_wp2_with (refine wpList_store_row rfl TReply (.tmp 6) (.tmp 33) rfl N (noC (q2 : Int) 0) rfl rfl TReply rpZ hz4 (by kernel_rfl) (by kernel_rfl) (by kernel_rfl) ?_)
  refine bodyPost_ret (v:=.agg (noC (q2 : Int) 0)) (results_cell_row rfl _ _ N TReply _ (0,0) _ rfl (setRow_heap _ _ _ _ TReply (0,0) hz4) Tryz.underlying36 rfl (by kernel_rfl)) rfl ?_
  rw [HR.out]
  exact ⟨rfl,below_setRow HF.out HB0.out.2.2.1⟩
end
end Go.Proofs.YtabdcphioccgnaaGreatDoor
