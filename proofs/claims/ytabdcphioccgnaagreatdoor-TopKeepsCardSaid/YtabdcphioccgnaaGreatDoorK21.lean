/- Chunk; Glue; Lay. -/
import Derived.LoopIn
import Derived.LoopNIn
import Derived.OwnWalkIn
import Derived.RangeFuncBound
import Derived.RangeFuncBox
import Derived.RangeFuncCalls
import Derived.RangeFuncLeaves
import Derived.RangeFuncNested
import Derived.Shelf.Abstract
import Derived.Shelf.RegionOpen
import Derived.TacticsInMore
import Derived.Test.YtabdcphioccgnaaGreatDoorK15
import Derived.Test.YtabdcphioccgnaaGreatDoorK18
set_option maxRecDepth 100000
set_option maxHeartbeats 8000000
namespace Go.Proofs.YtabdcphioccgnaaGreatDoor
section
open Go.RowKit Go.Shelf
attribute [local go_sem] Oper.semAt_some
def nblk (len : Nat) : Nat:=(len + 127) / 128
abbrev CI (len : Nat) : Type:={ k : Nat // 128 * k < len }
def ckV (a : Option Addr) (len k : Nat) : Value:=.slice (a.map (·.add (128 * k))) (min 128 (len - 128 * k)) (min 128 (len - 128 * k))
theorem chunk_in (F : Fence) (n : Nat) (h5 : F.fn 94) (hro : F.round = none) (a : Option Addr) (len cap : Nat) (w : World) :
  CallsIn F n Tryz.prog 94 #[.slice a len cap,.int .i64 128] w fun e w' => e = .returned (.func (.func 169) #[] #[.pointer (some ⟨w.heap.size,0,none⟩),.pointer (some ⟨w.heap.size + 1,0,none⟩)]) /\ w' = (w.alloc (.cells #[.slice a len cap] 30)).alloc (.cells #[.int .i64 128] 3):=by
 refine callsIn_of_wp Tryz.func94 rfl h5 ?_ hro
 simp only [Tryz.ntmps94,List.size_toArray,List.length_cons,List.length_nil,Nat.reduceAdd,Nat.reduceSub,Array.replicate_succ,Array.replicate_zero,List.push_toArray,List.append_toArray,List.nil_append,List.cons_append]
 gi_wp2
 go_ret
 exact ⟨rfl,rfl⟩
theorem ckV_at (b o len k m : Nat) (hm : m = min 128 (len - 128 * k)) : ckV (some ⟨b,o,none⟩) len k = .slice (some ⟨b,o + 128 * k,none⟩) m m:=by
 unfold ckV
 rw [<- hm]
 by_cases h0 : k = 0
 ·simp [Addr.add,h0]
 ·have h1 : ¬ 128 * k = 0:=by omega
  simp [Addr.add,h1]
theorem chunk1_in (F : Fence) (n : Nat) (h7 : F.fn 169) (hro : F.round = none) (hn : 1 <= n) (l Bx Bn : Nat) (a : Option Addr) (len cap : Nat) (hlc : len <= cap) (hle : len <= 1000000) (ha : 0 < len -> ∃ b o,a = some ⟨b,o,none⟩) (J Jx : List (CI len) -> World -> Prop)
  (hJd : ∀ s W,J s W -> J s W.drew)
  (hY : ∀ pre x W,J pre W -> pre.length < nblk len -> YieldAt F (n - 1) Tryz.prog l #[ckV a len x.1] W fun e W' =>
   (e = .returned (.bool true) /\ J (pre ++ [x]) W' /\ (W'.heap[Bx]? = W.heap[Bx]? /\ W'.heap[Bn]? = W.heap[Bn]?)) ∨ (e = .returned (.bool false) /\ Jx (pre ++ [x]) W'))
  (W : World) (hBx : Boxed W Bx 30 (.slice a len cap)) (hBn : Boxed W Bn 3 (.int .i64 128)) (h0 : J [] W) :
  CallsIn F n Tryz.prog 169 #[.func (.yield l) #[] #[],.pointer (some ⟨Bx,0,none⟩),.pointer (some ⟨Bn,0,none⟩)] W fun e W' => (∃ v,e = .returned v) /\
   ((∃ ys,ys.map (·.1) = List.range (nblk len) /\ J ys W') ∨ (∃ pre,True /\ Jx pre W')):=by
 refine callsIn_of_wp Tryz.func169 rfl h7 ?_ hro
 simp only [Tryz.ntmps169,List.size_toArray,List.length_cons,List.length_nil,Nat.reduceAdd,Nat.reduceSub,Array.replicate_succ,Array.replicate_zero,List.push_toArray,List.append_toArray,List.nil_append,List.cons_append]
 gi_wp2
 gi_loopw [4] (fun i wr => ∃ (k : Nat) (pre : List (CI len)),k <= nblk len /\ i = .int .i64 ((128 * k : Nat) : Int) /\ pre.map (·.1) = List.range k /\ J pre wr /\ Boxed wr Bx 30 (.slice a len cap) /\ Boxed wr Bn 3 (.int .i64 128))
  (fun i _ => len + 128 - (intOf i).toNat)
 case atStart => exact ⟨0,[],Nat.zero_le _,rfl,rfl,h0,hBx,hBn⟩
 case round =>
  obtain ⟨k,pre,hk,rfl,hpre,hJs,hX,hN⟩:=hrel
  have hcx:=hX.cell
  have hcn:=hN.cell
  have hkb : 128 * k <= 1000128:=by unfold nblk at hk; omega
  by_cases hlt : 128 * k < len
  ·have hkn : k < nblk len:=by unfold nblk; omega
   have hkn1 : k + 1 <= nblk len:=hkn
   obtain ⟨x,hx⟩ : ∃ x : CI len,x.1 = k:=⟨⟨k,hlt⟩,rfl⟩
   obtain ⟨fn,tmps,assign,body,hy,hR⟩:=hY pre x wr.drew (hJd _ _ hJs) (by rw [<- List.length_map (f:=(·.1)),hpre,List.length_range]; exact hkn)
   obtain ⟨b,o,rfl⟩:=ha (by omega)
   rw [hx] at hy
   have HPRE:=qh (show (pre ++ [x]).map (·.1) = List.range (k + 1) by rw [List.map_append,hpre,List.range_succ,<- hx]; rfl)
   have HX:=qh hX
   have HNB:=qh hN
   have hcap : ¬ cap = 128 * k:=by omega
   have e1 : ((128 * k : Nat) : Int) < (len : Int):=by omega
   have e2 : (0 : Int) <= ((128 * k : Nat) : Int):=by omega
   have e3 : 128 * k <= cap:=by omega
   have HK1:=qh (show 128 * k + 128 = 128 * (k + 1) by omega)
   clear hx hpre hX hN hBx hBn ha hY hJs
   rcases Nat.lt_or_ge (len - 128 * k) 128 with hm | hm
   ·have e4 : ((len - 128 * k : Nat) : Int) < 128:=by omega
    have e5 : 128 * k + (len - 128 * k) = len:=by omega
    rw [ckV_at b o len k (len - 128 * k) (by omega)] at hy
    generalize 128 * k = K at *
    clear hm
    gi_wp2
    gi_region
    all_goals
     gi_wp2
     refine hR.mono ?_
     rintro e W3 (⟨rfl,hJ3,hx3,hn3⟩ | ⟨rfl,hJx3⟩)
     ·have hcx3:=(show Boxed W3 Bx 30 (.slice (some ⟨b,o,none⟩) len cap) from hx3.trans HX.out).cell
      have hcn3:=(show Boxed W3 Bn 3 (.int .i64 128) from hn3.trans HNB.out).cell
      have HX3:=qh (show Boxed W3 Bx 30 (.slice (some ⟨b,o,none⟩) len cap) from hx3.trans HX.out)
      have HN3:=qh (show Boxed W3 Bn 3 (.int .i64 128) from hn3.trans HNB.out)
      clear hx3 hn3 HX HNB
      gi_wp2
      go_roundw
      case rel => exact ⟨k + 1,_,hkn1,by rw [<- HK1.out]; go_num,HPRE.out,hJ3,HX3.out,HN3.out⟩
      case measure => simp [intOf]; omega
     ·gi_wp2
      refine bodyPost_ret (results_none rfl _ _ _) rfl ?_
      exact ⟨⟨_,rfl⟩,.inr ⟨_,trivial,hJx3⟩⟩
   ·have e4 : ¬ ((len - 128 * k : Nat) : Int) < 128:=by omega
    have e6 : (128 : Int) <= ((len - 128 * k : Nat) : Int):=by omega
    have e5 : 128 * k + 128 <= len:=by omega
    rw [ckV_at b o len k 128 (by omega)] at hy
    generalize 128 * k = K at *
    clear hm
    gi_wp2
    gi_region
    all_goals
     gi_wp2
     refine hR.mono ?_
     rintro e W3 (⟨rfl,hJ3,hx3,hn3⟩ | ⟨rfl,hJx3⟩)
     ·have hcx3:=(show Boxed W3 Bx 30 (.slice (some ⟨b,o,none⟩) len cap) from hx3.trans HX.out).cell
      have hcn3:=(show Boxed W3 Bn 3 (.int .i64 128) from hn3.trans HNB.out).cell
      have HX3:=qh (show Boxed W3 Bx 30 (.slice (some ⟨b,o,none⟩) len cap) from hx3.trans HX.out)
      have HN3:=qh (show Boxed W3 Bn 3 (.int .i64 128) from hn3.trans HNB.out)
      clear hx3 hn3 HX HNB
      gi_wp2
      go_roundw
      case rel => exact ⟨k + 1,_,hkn1,by rw [<- HK1.out]; go_num,HPRE.out,hJ3,HX3.out,HN3.out⟩
      case measure => simp [intOf]; omega
     ·gi_wp2
      refine bodyPost_ret (results_none rfl _ _ _) rfl ?_
      exact ⟨⟨_,rfl⟩,.inr ⟨_,trivial,hJx3⟩⟩
  ·obtain rfl : k = nblk len:=by unfold nblk at hk ⊢; omega
   have hnlt : ¬ ((128 * nblk len : Nat) : Int) < (len : Int):=by omega
   gi_wp2
   go_end0
   exact ⟨⟨_,rfl⟩,.inl ⟨_,hpre,hJs⟩⟩
end
section
open Go.RowKit Go.Shelf
attribute [local go_sem] Oper.semAt_some
def chk (xs : List UInt8) (k : Nat) : List UInt8:=(xs.drop (128 * k)).take 128
theorem chks_upto (xs : List UInt8) (k : Nat) : ((List.range k).map (chk xs)).flatten = xs.take (128 * k):=by
 induction k with
 | zero => simp
 | succ k ih =>
  rw [List.range_succ,List.map_append,List.flatten_append,ih]
  rw [show 128 * (k + 1) = 128 * k + 128 by omega,List.take_add]
  simp [chk]
theorem chk_length (xs : List UInt8) (k : Nat) : (chk xs k).length = min 128 (xs.length - 128 * k):=by simp [chk]
theorem chunk_stops (F : Fence) (n : Nat) (h7 : F.fn 169) (hro : F.round = none) (hn : 1 <= n) (Bx Bn : Nat) (a : Option Addr) (len cap : Nat) (hlc : len <= cap) (hle : len <= 1000000) (ha : 0 < len -> ∃ b o,a = some ⟨b,o,none⟩) (w : World)
  (hBx : Boxed w Bx 30 (.slice a len cap)) (hBn : Boxed w Bn 3 (.int .i64 128)) :
  SeqStopsK F n Tryz.prog 169 #[.pointer (some ⟨Bx,0,none⟩),.pointer (some ⟨Bn,0,none⟩)] (fun x : CI len => #[ckV a len x.1]) (fun W W' => W'.heap[Bx]? = W.heap[Bx]? /\ W'.heap[Bn]? = W.heap[Bn]?) (fun ys => ys.map (·.1) = List.range (nblk len)) (fun _ => True) (nblk len) w:=fun l J Jx W hW hJ hJx hY h0 => by
 refine chunk1_in F n h7 hro hn l Bx Bn a len cap hlc hle ha J Jx (fun s W hs => ?_) hY W ?_ ?_ h0
 ·exact hJ s W W.drew none hs ⟨rfl,rfl,rfl,Nat.le_refl _,fun _ _ _ => rfl⟩ (fun r e => by cases e)
 ·exact (hW.block Bx hBx.lt).trans hBx
 ·exact (hW.block Bn hBn.lt).trans hBn
theorem Bs.chunk {w : World} {a : Option Addr} {len cap : Nat} {xs : List UInt8} (h : Bs w a len cap xs) (k m : Nat) (hk : 128 * k < len) (hm : m = min 128 (len - 128 * k)) : Bs w (a.map (·.add (128 * k))) m m (chk xs k):=by
 obtain ⟨h1,h2,h3,h4⟩:=h
 refine ⟨by rw [chk_length,h1,hm],Nat.le_refl _,by omega,?_⟩
 rcases h4 with h4 | ⟨b,off,rfl,h5,h6⟩
 ·omega
 ·refine .inr ⟨b,off + 128 * k,?_,h5,fun i hi => ?_⟩
  ·by_cases h0 : k = 0
   ·simp [Addr.add,h0]
   ·have : ¬ 128 * k = 0:=by omega
    simp [Addr.add,this]
  ·have hi2 : 128 * k + i < xs.length:=by rw [chk_length] at hi; omega
   have:=h6 (128 * k + i) hi2
   rw [show off + 128 * k + i = off + (128 * k + i) by omega,this]
   simp [chk]
theorem Bs.keptc {w w' : World} {row : Option Nat} {a : Option Addr} {len cap : Nat} {xs : List UInt8} (h : Bs w a len cap xs) (hg : w.grownBy w' row) (hr : ∀ r,row = some r -> ∃ o : Obj,w.heap[r]? = some o /\ o.isCells = false) : Bs w' a len cap xs:=by
 refine h.grown hg fun h0 ad had e => ?_
 obtain ⟨h1,h2,h3,h4⟩:=h
 rcases h4 with h4 | ⟨b,off,rfl,h5,h6⟩
 ·omega
 ·injection had with had; subst had
  obtain ⟨o,ho,hc⟩:=hr b e
  have:=h6 0 (by omega)
  simp only [World.cell?,ho] at this
  cases o <;> simp_all [Obj.isCells]
end
section
open Go.RowKit Go.Shelf
attribute [local go_sem] Oper.semAt_some
def layP (M : Nat -> Option (List UInt8)) (first : Nat) (xs : List UInt8) (pre : List Nat) (i : Nat) : Option (List UInt8) :=
 if first <= i /\ i < first + pre.length then some (chk xs (pre.getD (i - first) 0)) else M i
def layM (M : Nat -> Option (List UInt8)) (first : Nat) (xs : List UInt8) (m i : Nat) : Option (List UInt8) :=
 if first <= i /\ i < first + m then some (chk xs (i - first)) else M i
theorem layP_nil (M : Nat -> Option (List UInt8)) (first : Nat) (xs : List UInt8) : layP M first xs [] = M:=by
 funext i
 unfold layP
 rw [if_neg (by simp)]
theorem layP_snoc (M : Nat -> Option (List UInt8)) (first : Nat) (xs : List UInt8) (pre : List Nat) (k : Nat) : updM (layP M first xs pre) (first + pre.length) (chk xs k) = layP M first xs (pre ++ [k]):=by
 funext i
 unfold updM layP
 rw [List.length_append,List.length_singleton]
 by_cases h : i = first + pre.length
 ·subst h
  rw [if_pos rfl,if_pos (by omega),show first + pre.length - first = pre.length by omega]
  simp
 ·rw [if_neg h]
  by_cases h2 : first <= i /\ i < first + pre.length
  ·rw [if_pos h2,if_pos (by omega)]
   rw [List.getD_eq_getElem?_getD,List.getD_eq_getElem?_getD,List.getElem?_append_left (by omega)]
  ·rw [if_neg h2,if_neg (by omega)]
theorem layP_range (M : Nat -> Option (List UInt8)) (first : Nat) (xs : List UInt8) (m : Nat) : layP M first xs (List.range m) = layM M first xs m:=by
 funext i
 unfold layP layM
 rw [List.length_range]
 by_cases h : first <= i /\ i < first + m
 ·rw [if_pos h,if_pos h,List.getD_eq_getElem?_getD,List.getElem?_range (by omega)]; rfl
 ·rw [if_neg h,if_neg h]
theorem Dk.keptc {w w' : World} {row : Option Nat} {d sb mb n : Nat} {S : List UInt8} {M : Nat -> Option (List UInt8)} (h : Dk w d sb mb n S M) (hg : w.grownBy w' row) (hm : row ≠ some mb) (hr : ∀ r,row = some r -> ∃ o : Obj,w.heap[r]? = some o /\ o.isCells = false) : Dk w' d sb mb n S M:=by
 have hlt:=h.lt
 obtain ⟨h1,h2,h3,⟨cap,wr,h4,h5⟩,L,h6,h7,h8⟩:=h
 have hd : some d ≠ row:=fun e => by obtain ⟨o,ho,hc⟩:=hr d e.symm; rw [h4] at ho; cases ho; cases hc
 have hs : some sb ≠ row:=fun e => by
  obtain ⟨o,ho,hc⟩:=hr sb e.symm
  obtain ⟨cur,hcur,_⟩:=h5
  rw [hcur] at ho; cases ho; cases hc
 refine ⟨h1,h2,h3,⟨cap,wr,(hg.block d hlt.1 hd).trans h4,h5.of_heap (hg.block sb hlt.2.1 hs)⟩,L,h6.same numS (hg.block mb hlt.2.2 (fun e => hm e.symm)),h7,fun i v hi => ?_⟩
 obtain ⟨hn,a,c,bs,e,hB,hM,ha⟩:=h8 i v hi
 exact ⟨hn,a,c,bs,e,hB.keptc hg hr,hM,ha⟩
theorem Dk.box {w : World} {H d sb mb n : Nat} {T : TypeId} {u : Int} {S : List UInt8} {M : Nat -> Option (List UInt8)} (h : Dk w d sb mb n S M) (hx : Boxed w H T (.int .i64 u)) (h1 : H ≠ d) (h2 : H ≠ sb) (h3 : H ≠ mb) (y : Value) : Dk (w.setCell ⟨H,0,none⟩ y) d sb mb n S M:=by
 have hfar : ∀ k,k ≠ H -> (w.setCell ⟨H,0,none⟩ y).heap[k]? = w.heap[k]?:=fun k hk => Below.heap_setCell _ _ _ _ hk
 obtain ⟨q1,q2,q3,⟨cap,wr,h4,h5⟩,L,h6,h7,h8⟩:=h
 refine ⟨q1,q2,q3,⟨cap,wr,(hfar d h1.symm).trans h4,h5.of_heap (hfar sb h2.symm)⟩,L,h6.same numS (hfar mb h3.symm),h7,fun i v hi => ?_⟩
 obtain ⟨hn,a,c,bs,e,hB,hM,ha⟩:=h8 i v hi
 refine ⟨hn,a,c,bs,e,hB.grown (grownBy_setCell' w H y) (fun h0 ad had e => ?_),hM,ha⟩
 injection e with e
 subst e
 obtain ⟨p1,p2,p3,p4⟩:=hB
 rcases p4 with p4 | ⟨b,off,rfl,p5,p6⟩
 ·omega
 ·injection had with had; subst had
  have:=p6 0 (by omega)
  simp only [World.cell?,show w.heap[b]? = _ from hx] at this
  by_cases ho : off = 0
  ·subst ho; simp at this
  ·simp [ho] at this
theorem lay_round {w W w2 : World} {H Hd Hf Hs Hn d sb mb n : Nat} {S : List UInt8} {M : Nat -> Option (List UInt8)} {first : Nat} {xs : List UInt8} {len : Nat} {pre : List (CI len)} {x : CI len} {B : Nat}
  (hH : d < H /\ sb < H /\ mb < H) (hHB : H <= Hd /\ Hd < B /\ H <= Hf /\ Hf < B /\ H <= Hs /\ Hs < B /\ H <= Hn /\ Hn < B) (hne : Hd ≠ Hf /\ Hs ≠ Hf /\ Hn ≠ Hf) (hHw : w.heap.size <= H) (hd : Boxed W Hd 24 (.pointer (some ⟨d,0,none⟩))) (hv : Boxed W Hf 3 (.int .i64 ((first + pre.length : Nat) : Int)))
  (hC : Chg (fun k => k = d ∨ k = mb) w W) (h3 : B <= W.heap.size) (k2 : Nat) (hk2 : k2 = first + (pre ++ [x]).length)
  (hD2 : Dk w2 d sb mb n S (updM (layP M first xs (pre.map (·.1))) (first + pre.length) (chk xs x.1))) (hC2 : Chg (fun k => k = d ∨ k = mb) W w2) :
  Boxed w2 Hf 3 (.int .i64 ((first + pre.length : Nat) : Int)) /\
  ∀ ac : Act,ownPostG B (fun W W' => W'.heap[Hs]? = W.heap[Hs]? /\ W'.heap[Hn]? = W.heap[Hn]?)
   (fun (pre : List (CI len)) W => (Boxed W Hd 24 (.pointer (some ⟨d,0,none⟩)) /\ Boxed W Hf 3 (.int .i64 ((first + pre.length : Nat) : Int))) /\ Dk W d sb mb n S (layP M first xs (pre.map (·.1))) /\ Chg (fun k => k = d ∨ k = mb) w W /\ B <= W.heap.size)
   (fun _ _ _ => False) (pre ++ [x]) W .normal ac (w2.setCell ⟨Hf,0,none⟩ (.int .i64 (k2 : Int))):=by
 have hbl : ∀ k,H <= k -> k < W.heap.size -> w2.heap[k]? = W.heap[k]?:=fun k hk hl => hC2.block k hl (by omega)
 have hv2 : Boxed w2 Hf 3 (.int .i64 ((first + pre.length : Nat) : Int)):=(hbl Hf (by omega) (by omega)).trans hv
 have hd2 : Boxed w2 Hd 24 (.pointer (some ⟨d,0,none⟩)):=(hbl Hd (by omega) (by omega)).trans hd
 have hsz:=hC2.size
 have hss : (w2.setCell ⟨Hf,0,none⟩ (.int .i64 (k2 : Int))).heap.size = w2.heap.size:=by simp [World.setCell]
 have hfar : ∀ k,k ≠ Hf -> (w2.setCell ⟨Hf,0,none⟩ (.int .i64 (k2 : Int))).heap[k]? = w2.heap[k]?:=fun k hk => Below.heap_setCell _ _ _ _ hk
 refine ⟨hv2,fun _ => ⟨⟨by omega,fun k o hk ho _ => ?_⟩,⟨(hfar _ hne.2.1).trans (hbl _ (by omega) (by omega)),(hfar _ hne.2.2).trans (hbl _ (by omega) (by omega))⟩,⟨(hfar _ hne.1).trans hd2,?_⟩,?_,?_,by omega⟩⟩
 ·exact (hfar k (by omega)).trans ((hbl k (by omega) (Array.getElem?_eq_some_iff.1 ho).1).trans ho)
 ·rw [<- hk2]; exact hv2.set _
 ·rw [List.map_append,List.map_cons,List.map_nil,<- layP_snoc,List.length_map]
  exact Dk.box hD2 hv2 (by omega) (by omega) (by omega) _
 ·exact (hC.trans hC2 (fun _ _ h => h)).setCell (p:=⟨Hf,0,none⟩) (fun h => by have : Hf < w.heap.size:=h; omega) _
theorem lay_any {w : World} {d sb mb n : Nat} {S : List UInt8} {M : Nat -> Option (List UInt8)} (h : Dk w d sb mb n S M) (first m : Nat) (a : Option Addr) (cap : Nat) (xs : List UInt8) (hX : Bs w a (128 * m) cap xs) (hf : first + m <= n)
  (hap : ∀ ad,a = some ad -> ad.block ≠ d /\ ad.block ≠ mb) :
  Calls Tryz.prog 32 #[.pointer (some ⟨d,0,none⟩),.int .i64 (first : Int),.slice a (128 * m) cap] w fun e w' => e = .returned (.tuple #[]) /\ Dk w' d sb mb n S (layM M first xs m) /\ Chg (fun k => k = d ∨ k = mb) w w':=by
 have hn4 : n <= 4096:=h.2.2.1
 have hlt:=h.lt
 obtain ⟨len,hlen⟩:=qnm (128 * m)
 rw [<- hlen] at hX ⊢
 have HLEN:=qh hlen
 have HF:=qh (aI hf (aI hn4 hlen))
 have hle : len <= 1000000:=by omega
 clear hlen hf hn4
 refine (callsIn_wide (n:=3)).1 ?_
 refine callsIn_of_wp_marks Tryz.func32 rfl trivial ?_ rfl
 simp only [Tryz.ntmps32,List.size_toArray,List.length_cons,List.length_nil,Nat.reduceAdd,Nat.reduceSub,Array.replicate_succ,Array.replicate_zero,List.push_toArray,List.append_toArray,List.nil_append,List.cons_append]
 gi_wp2_with (refine ⟨trivial,?_⟩; gi_at_call 94; refine (chunk_in Fence.wide _ trivial rfl a len cap _).mono ?_; rintro e w' ⟨rfl,rfl⟩)
 have bD:=Boxed.new w 24 (.pointer (some ⟨d,0,none⟩))
 have bF:=Boxed.new (w.alloc (.cells #[.pointer (some ⟨d,0,none⟩)] 24)) 3 (.int .i64 (first : Int))
 have bS:=Boxed.new ((w.alloc (.cells #[.pointer (some ⟨d,0,none⟩)] 24)).alloc (.cells #[.int .i64 (first : Int)] 3)) 30 (.slice a len cap)
 have bN:=Boxed.new (((w.alloc (.cells #[.pointer (some ⟨d,0,none⟩)] 24)).alloc (.cells #[.int .i64 (first : Int)] 3)).alloc (.cells #[.slice a len cap] 30)) 3 (.int .i64 128)
 simp only [World.size_alloc] at bF bS bN
 have bD4:=((bD.alloc (.cells #[.int .i64 (first : Int)] 3)).alloc (.cells #[.slice a len cap] 30)).alloc (.cells #[.int .i64 128] 3)
 have bF4:=(bF.alloc (.cells #[.slice a len cap] 30)).alloc (.cells #[.int .i64 128] 3)
 have bS4:=bS.alloc (.cells #[.int .i64 128] 3)
 have hB0 : Below w.heap.size w ((((w.alloc (.cells #[.pointer (some ⟨d,0,none⟩)] 24)).alloc (.cells #[.int .i64 (first : Int)] 3)).alloc (.cells #[.slice a len cap] 30)).alloc (.cells #[.int .i64 128] 3)):=((((Below.refl _ w).alloc (Nat.le_refl _) _).alloc (by simp) _).alloc (by simp; omega) _).alloc (by simp; omega) _
 have hpos : 0 < len -> ∃ b o,a = some ⟨b,o,none⟩:=fun h0 => by
  rcases hX.2.2.2 with h1 | ⟨b,o,h1,_⟩
  ·omega
  ·exact ⟨b,o,h1⟩
 obtain ⟨w3,hw3⟩:=qnm (((((w.alloc (.cells #[.pointer (some ⟨d,0,none⟩)] 24)).alloc (.cells #[.int .i64 (first : Int)] 3)).alloc (.cells #[.slice a len cap] 30)).alloc (.cells #[.int .i64 128] 3)))
 have hsz : w3.heap.size = w.heap.size + 4:=by rw [hw3]; simp
 rw [<- hw3] at bD4 bF4 bS4 bN hB0 ⊢
 clear hw3 bD bF bS
 obtain ⟨H,hH⟩:=qnm w.heap.size
 rw [<- hH] at bD4 bF4 bS4 bN hB0 hsz hlt ⊢
 have HH:=qh hH
 have hD3 : Dk w3 d sb mb n S M:=h.below (by rw [<- hH]; exact hB0)
 have hC3 : Chg (fun k => k = d ∨ k = mb) w w3:=Chg.of_below (by rw [<- hH]; exact hB0) _
 clear hH
 refine wpIn_rangeFunc_ownG rfl (by omega) (gf:=169) (lb:=#[.pointer (some ⟨H + 1 + 1,0,none⟩),.pointer (some ⟨H + 1 + 1 + 1,0,none⟩)]) rfl trivial (enters_of Tryz.func169 (by kernel_rfl) rfl)
  (chunk_stops Fence.wide _ trivial rfl (by omega) (H + 1 + 1) (H + 1 + 1 + 1) a len cap hX.2.1 hle hpos w3 bS4 bN)
  (fun h1 h2 => ⟨h2.1.trans h1.1,h2.2.trans h1.2⟩)
  (fun W l o o' hle hlo _ _ => ⟨World.putObj_heap_other (by omega),World.putObj_heap_other (by omega)⟩)
  (Below.refl _ _) (fun _ => rfl)
  (fun pre W => (Boxed W H 24 (.pointer (some ⟨d,0,none⟩)) /\ Boxed W (H + 1) 3 (.int .i64 ((first + pre.length : Nat) : Int))) /\ Dk W d sb mb n S (layP M first xs (pre.map (·.1))) /\ Chg (fun k => k = d ∨ k = mb) w W /\ w3.heap.size <= W.heap.size)
  (fun _ _ _ => False)
  ?own
  (fun _ _ _ _ _ hs _ _ => hs)
  ⟨⟨bD4,bF4⟩,by rw [List.map_nil,layP_nil]; exact hD3,hC3,Nat.le_refl _⟩
  (fun x => { tmps:=#[.pointer (some ⟨d,0,none⟩),.int .i64 (first : Int),.slice a len cap,.pointer (some ⟨H,0,none⟩),.pointer (some ⟨H + 1,0,none⟩),undef,ckV a len x.1,.slice a len cap,.func (.func 169) #[] #[.pointer (some ⟨H + 1 + 1,0,none⟩),.pointer (some ⟨H + 1 + 1 + 1,0,none⟩)],ckV a len x.1,undef,undef,undef,undef,undef,undef],defers:=[] }) ?assign ?body ?done ?stop
 case own =>
  rintro s A B row ⟨⟨hd,hv⟩,hD,hC,h3⟩ hg hr
  have hdr : row ≠ some H:=fun e => by have:=(hr H e).1; omega
  have hvr : row ≠ some (H + 1):=fun e => by have:=(hr (H + 1) e).1; omega
  refine ⟨⟨hd.kept hg hdr.symm,hv.kept hg hvr.symm⟩,hD.keptc hg (fun e => by have:=(hr mb e).1; omega) (fun r e => (hr r e).2),hC.grown hg (fun k hk e => ?_),Nat.le_trans h3 hg.size⟩
  have:=(hr k e).1
  have:=HH.out
  omega
 case assign =>
  intro l x W K hK
  gi_wp2
  exact hK
 case body =>
  rintro l pre x W ⟨⟨hd,hv⟩,hD,hC,h3⟩ hl
  have hmx : Tryz.prog.follows .mixedOrders = true:=by kernel_rfl
  obtain ⟨hf,hn4,hlen⟩:=HF.out
  have hnb : nblk len = m:=by unfold nblk; omega
  have hx2:=x.2
  have hBx:=((hC.bs hX (fun ad had => by have:=hap ad had; omega)).chunk x.1 128 x.2 (by omega))
  obtain ⟨k1,hk1⟩:=qnm (first + pre.length)
  obtain ⟨k2,hk2⟩:=qnm (k1 + 1)
  have hHw:=HH.out
  have HR:=qh (fun (w2 : World) (hD2 : Dk w2 d sb mb n S (updM (layP M first xs (pre.map (·.1))) (first + pre.length) (chk xs x.1))) (hC2 : Chg (fun k => k = d ∨ k = mb) W w2) =>
   lay_round (B:=w3.heap.size) (Hs:=H + 1 + 1) (Hn:=H + 1 + 1 + 1) (x:=x) (pre:=pre) hlt (by omega) (by omega) (by omega) hd hv hC h3 k2 (by rw [List.length_append,List.length_singleton]; omega) hD2 hC2)
  have HW:=qh (dwrite_any hD (first + pre.length) (by omega) _ 128 (chk xs x.1) hBx)
  have e1 : IntKind.i64.wrap ((k1 : Int) + 1) = (k2 : Int):=by rw [IntWalk.i64_in _ (by omega)]; omega
  rw [<- hk1] at hv HW HR
  have hmin : min 128 (len - 128 * x.1) = 128:=by omega
  dsimp only [ckV]
  rw [hmin]
  generalize a.map (·.add (128 * x.1)) = ax at *
  have hc0:=hd.cell
  have hc1:=hv.cell
  clear hHw hBx hk1 hk2 hf hn4 hlen hnb hx2 hmin
  gi_wp2_with (refine ⟨trivial,?_⟩; refine (CallsIn.inRound l (callsIn_wide.2 HW.out)).mono ?_; rintro e w2 ⟨rfl,hD2,hC2⟩; obtain ⟨hv2,hfin⟩:=HR.out w2 hD2 hC2; have hc2:=hv2.cell; have hf2:=hv2.frozen; clear hD2 hC2)
  exact hfin { tmps:=#[],defers:=[] }
 case done =>
  rintro D ys W hD hys ⟨⟨hd,hv⟩,hDk,hC,h3⟩ hK
  have hlen:=HLEN.out
  have hnb : nblk len = m:=by unfold nblk; omega
  rw [hys,hnb,layP_range] at hDk
  have hHw:=HH.out
  have hg:=grownBy_putObj' W D (.deferred none)
  have hD2:=hDk.keptc hg (fun e => by injection e with e; omega) (fun r e => by cases e; exact ⟨_,hK,rfl⟩)
  have hC2:=hC.grown hg (fun k hk e => by injection e with e; omega)
  clear hHw
  show LeavesInM _ _ _ _ _ _ _ _ _
  refine ⟨by simp,.inl ⟨_,_,rfl,run_takeDeferred hK,?_⟩⟩
  refine ⟨_,results_none rfl _ _ _,?_⟩
  exact ⟨rfl,hD2,hC2⟩
 case stop =>
  rintro D c pre W _ _ h _
  exact h.elim
theorem loglay_any {w : World} {d sb mb n : Nat} {S : List UInt8} {M : Nat -> Option (List UInt8)} (h : Dk w d sb mb n S M) (s p g : Int) (hp : isPlan s p g) (i first : Nat) (hi : (i : Int) < g) (hfi : (first : Int) = 1 + 2 * p + i * 8) (m : Nat) (a : Option Addr) (cap : Nat) (xs : List UInt8) (hX : Bs w a (128 * m) cap xs) (hf : first + m <= n)
  (hap : ∀ ad,a = some ad -> ad.block ≠ d /\ ad.block ≠ mb) :
  Calls Tryz.prog 75 #[.pointer (some ⟨d,0,none⟩),.agg #[.int .i64 s,.int .i64 p,.int .i64 g],.int .i64 (i : Int),.slice a (128 * m) cap] w fun e w' => e = .returned (.tuple #[]) /\ (∃ S',Dk w' d sb mb n S' (fun _ => none) /\ ∀ j,j < n -> secOf S' j = sect S (layM M first xs m) j) /\ Chg (fun k => k = d ∨ k = sb ∨ k = mb) w w':=by
 have hn4 : n <= 4096:=h.2.2.1
 have hlt:=h.lt
 obtain ⟨len,hlen⟩:=qnm (128 * m)
 rw [<- hlen] at hX ⊢
 have HLEN:=qh hlen
 have HF:=qh (aI hf (aI hn4 hlen))
 have hle : len <= 1000000:=by omega
 have HS:=qh (fun w => segment_ok s p g (i : Int) w hp (by omega) hi)
 rw [<- hfi] at HS
 clear hlen hf hn4 hfi hi
 refine (callsIn_wide (n:=3)).1 ?_
 refine callsIn_of_wp_marks Tryz.func75 rfl trivial ?_ rfl
 simp only [Tryz.ntmps75,List.size_toArray,List.length_cons,List.length_nil,Nat.reduceAdd,Nat.reduceSub,Array.replicate_succ,Array.replicate_zero,List.push_toArray,List.append_toArray,List.nil_append,List.cons_append]
 gi_wp2_with fail
 refine ⟨trivial,?_⟩
 refine (callsIn_wide.2 (HS.out _)).mono ?_
 rintro e w1 ⟨rfl,hb1⟩
 gi_wp2_with (refine ⟨trivial,?_⟩; gi_at_call 94; refine (chunk_in Fence.wide _ trivial rfl a len cap _).mono ?_; rintro e w' ⟨rfl,rfl⟩)
 have bD0:=(Boxed.new w 24 (.pointer (some ⟨d,0,none⟩))).alloc (.cells #[.int .i64 s,.int .i64 p,.int .i64 g] 56)
 have hszB : ((w.alloc (.cells #[.pointer (some ⟨d,0,none⟩)] 24)).alloc (.cells #[.int .i64 s,.int .i64 p,.int .i64 g] 56)).heap.size = w.heap.size + 2:=by simp
 have hB1 : Below w.heap.size w w1:=(((Below.refl _ w).alloc (Nat.le_refl _) _).alloc (by simp) _).trans (hb1.mono (by omega))
 have bD:=(hb1.block w.heap.size (by omega)).trans bD0
 have hGw : w.heap.size + 2 <= w1.heap.size:=by have:=hb1.size; omega
 clear hb1 bD0 hszB
 have bF:=Boxed.new w1 3 (.int .i64 (first : Int))
 have bS:=Boxed.new (w1.alloc (.cells #[.int .i64 (first : Int)] 3)) 30 (.slice a len cap)
 have bN:=Boxed.new ((w1.alloc (.cells #[.int .i64 (first : Int)] 3)).alloc (.cells #[.slice a len cap] 30)) 3 (.int .i64 128)
 simp only [World.size_alloc] at bS bN
 have bD4:=((Boxed.alloc bD (.cells #[.int .i64 (first : Int)] 3)).alloc (.cells #[.slice a len cap] 30)).alloc (.cells #[.int .i64 128] 3)
 have bF4:=(bF.alloc (.cells #[.slice a len cap] 30)).alloc (.cells #[.int .i64 128] 3)
 have bS4:=bS.alloc (.cells #[.int .i64 128] 3)
 have hB0 : Below w.heap.size w (((w1.alloc (.cells #[.int .i64 (first : Int)] 3)).alloc (.cells #[.slice a len cap] 30)).alloc (.cells #[.int .i64 128] 3)):=((hB1.alloc (by omega) _).alloc (by simp; omega) _).alloc (by simp; omega) _
 have hpos : 0 < len -> ∃ b o,a = some ⟨b,o,none⟩:=fun h0 => by
  rcases hX.2.2.2 with h1 | ⟨b,o,h1,_⟩
  ·omega
  ·exact ⟨b,o,h1⟩
 obtain ⟨w3,hw3⟩:=qnm ((((w1.alloc (.cells #[.int .i64 (first : Int)] 3)).alloc (.cells #[.slice a len cap] 30)).alloc (.cells #[.int .i64 128] 3)))
 have hsz : w3.heap.size = w1.heap.size + 3:=by rw [hw3]; simp
 rw [<- hw3] at bD4 bF4 bS4 bN hB0 ⊢
 clear hw3 bD bF bS
 obtain ⟨G,hG⟩:=qnm w1.heap.size
 rw [<- hG] at bF4 bS4 bN hsz hGw ⊢
 clear hG hB1
 obtain ⟨H,hH⟩:=qnm w.heap.size
 rw [<- hH] at bD4 hB0 hGw hlt ⊢
 have HH:=qh hH
 have hD3 : Dk w3 d sb mb n S M:=h.below (by rw [<- hH]; exact hB0)
 have hC3 : Chg (fun k => k = d ∨ k = mb) w w3:=Chg.of_below (by rw [<- hH]; exact hB0) _
 clear hH
 refine wpIn_rangeFunc_ownG rfl (by omega) (gf:=169) (lb:=#[.pointer (some ⟨G + 1,0,none⟩),.pointer (some ⟨G + 1 + 1,0,none⟩)]) rfl trivial (enters_of Tryz.func169 (by kernel_rfl) rfl)
  (chunk_stops Fence.wide _ trivial rfl (by omega) (G + 1) (G + 1 + 1) a len cap hX.2.1 hle hpos w3 bS4 bN)
  (fun h1 h2 => ⟨h2.1.trans h1.1,h2.2.trans h1.2⟩)
  (fun W l o o' hle hlo _ _ => ⟨World.putObj_heap_other (by omega),World.putObj_heap_other (by omega)⟩)
  (Below.refl _ _) (fun _ => rfl)
  (fun pre W => (Boxed W H 24 (.pointer (some ⟨d,0,none⟩)) /\ Boxed W G 3 (.int .i64 ((first + pre.length : Nat) : Int))) /\ Dk W d sb mb n S (layP M first xs (pre.map (·.1))) /\ Chg (fun k => k = d ∨ k = mb) w W /\ w3.heap.size <= W.heap.size)
  (fun _ _ _ => False)
  ?own
  (fun _ _ _ _ _ hs _ _ => hs)
  ⟨⟨bD4,bF4⟩,by rw [List.map_nil,layP_nil]; exact hD3,hC3,Nat.le_refl _⟩
  (fun x => { tmps:=#[.pointer (some ⟨d,0,none⟩),.agg #[.int .i64 s,.int .i64 p,.int .i64 g],.int .i64 (i : Int),.slice a len cap,.pointer (some ⟨H,0,none⟩),.pointer (some ⟨H + 1,0,none⟩),undef,undef,.pointer (some ⟨G,0,none⟩),.int .i64 0,ckV a len x.1,.tuple #[.int .i64 (first : Int),.int .i64 0],.agg #[.int .i64 s,.int .i64 p,.int .i64 g],.int .i64 (i : Int),.tuple #[.int .i64 (first : Int),.int .i64 0],.int .i64 (first : Int),.int .i64 0,.slice a len cap,.func (.func 169) #[] #[.pointer (some ⟨G + 1,0,none⟩),.pointer (some ⟨G + 1 + 1,0,none⟩)],ckV a len x.1,undef,undef,undef,undef,undef,undef,undef,undef],defers:=[] }) ?assign ?body ?done ?stop
 case own =>
  rintro s A B row ⟨⟨hd,hv⟩,hD,hC,h3⟩ hg hr
  have hdr : row ≠ some H:=fun e => by have:=(hr H e).1; omega
  have hvr : row ≠ some G:=fun e => by have:=(hr G e).1; omega
  refine ⟨⟨hd.kept hg hdr.symm,hv.kept hg hvr.symm⟩,hD.keptc hg (fun e => by have:=(hr mb e).1; omega) (fun r e => (hr r e).2),hC.grown hg (fun k hk e => ?_),Nat.le_trans h3 hg.size⟩
  have:=(hr k e).1
  have:=HH.out
  omega
 case assign =>
  intro l x W K hK
  gi_wp2
  exact hK
 case body =>
  rintro l pre x W ⟨⟨hd,hv⟩,hD,hC,h3⟩ hl
  have hmx : Tryz.prog.follows .mixedOrders = true:=by kernel_rfl
  obtain ⟨hf,hn4,hlen⟩:=HF.out
  have hnb : nblk len = m:=by unfold nblk; omega
  have hx2:=x.2
  have hBx:=((hC.bs hX (fun ad had => by have:=hap ad had; omega)).chunk x.1 128 x.2 (by omega))
  obtain ⟨k1,hk1⟩:=qnm (first + pre.length)
  obtain ⟨k2,hk2⟩:=qnm (k1 + 1)
  have hHw:=HH.out
  have HR:=qh (fun (w2 : World) (hD2 : Dk w2 d sb mb n S (updM (layP M first xs (pre.map (·.1))) (first + pre.length) (chk xs x.1))) (hC2 : Chg (fun k => k = d ∨ k = mb) W w2) =>
   lay_round (B:=w3.heap.size) (Hs:=G + 1) (Hn:=G + 1 + 1) (x:=x) (pre:=pre) hlt (by omega) (by omega) (by omega) hd hv hC h3 k2 (by rw [List.length_append,List.length_singleton]; omega) hD2 hC2)
  have HW:=qh (dwrite_any hD (first + pre.length) (by omega) _ 128 (chk xs x.1) hBx)
  have e1 : IntKind.i64.wrap ((k1 : Int) + 1) = (k2 : Int):=by rw [IntWalk.i64_in _ (by omega)]; omega
  rw [<- hk1] at hv HW HR
  have hmin : min 128 (len - 128 * x.1) = 128:=by omega
  dsimp only [ckV]
  rw [hmin]
  generalize a.map (·.add (128 * x.1)) = ax at *
  have hc0:=hd.cell
  have hc1:=hv.cell
  clear hHw hBx hk1 hk2 hf hn4 hlen hnb hx2 hmin
  gi_wp2_with (refine ⟨trivial,?_⟩; refine (CallsIn.inRound l (callsIn_wide.2 HW.out)).mono ?_; rintro e w2 ⟨rfl,hD2,hC2⟩; obtain ⟨hv2,hfin⟩:=HR.out w2 hD2 hC2; have hc2:=hv2.cell; have hf2:=hv2.frozen; clear hD2 hC2)
  exact hfin { tmps:=#[],defers:=[] }
 case done =>
  rintro D ys W hD hys ⟨⟨hd,hv⟩,hDk,hC,h3⟩ hK
  have hlen:=HLEN.out
  have hnb : nblk len = m:=by unfold nblk; omega
  rw [hys,hnb,layP_range] at hDk
  have hc0:=hd.cell
  have HFL:=qh (flush_any hDk)
  have HC:=qh (aI hC hDk)
  clear hDk hC
  gi_wp2_with (refine ⟨trivial,?_⟩; refine (callsIn_wide.2 HFL.out).mono ?_; rintro e w4 ⟨rfl,⟨S',hD4,hS4⟩,hC4⟩)
  have hHw:=HH.out
  obtain ⟨hC,_⟩:=HC.out
  have hK4 : w4.heap[D]? = some (.deferred (some [])):=(hC4.block D (Array.getElem?_eq_some_iff.1 hK).1 (by omega)).trans hK
  have hg:=grownBy_putObj' w4 D (.deferred none)
  have hD5:=hD4.keptc hg (fun e => by injection e with e; omega) (fun r e => by cases e; exact ⟨_,hK4,rfl⟩)
  have hC5 : Chg (fun k => k = d ∨ k = sb ∨ k = mb) w (w4.putObj D (.deferred none)):=((hC.mono (fun _ _ h => by omega)).trans hC4 (fun _ _ h => by omega)).grown hg (fun k hk e => by injection e with e; omega)
  clear hHw
  show LeavesInM _ _ _ _ _ _ _ _ _
  refine ⟨by simp,.inl ⟨_,_,rfl,run_takeDeferred hK4,?_⟩⟩
  refine ⟨_,results_none rfl _ _ _,?_⟩
  exact ⟨rfl,⟨S',hD5,hS4⟩,hC5⟩
 case stop =>
  rintro D c pre W _ _ h _
  exact h.elim
end
end Go.Proofs.YtabdcphioccgnaaGreatDoor
