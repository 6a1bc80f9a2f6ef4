/- Worm; StKeep; StUnl. -/
import Derived.Test.YtabdcphioccgnaaGreatDoorK28
set_option maxRecDepth 100000
set_option maxHeartbeats 8000000
namespace Go.Proofs.YtabdcphioccgnaaGreatDoor
section
open Go.RowKit
def wormKind (k : Int) : Nat:=if k = 1 then 0 else if k = 2 then 22 else 30
def wormKeep (nd : Nd) (u : Nat) : Nat:=if wormKind nd.kind ≠ 0 then wormKind nd.kind else if nd.closed = false then 25 else if u < nd.til then 28 else if MTn < u then 1 else 0
def wormRemove (nd : Nd) (now : Nat) : Nat:=if wormKind nd.kind = 0 /\ nd.closed = true /\ nd.links <= 1 /\ now < nd.til then 28 else wormKind nd.kind
theorem kind_any (nd : Nd) (w : World) : Calls Tryz.prog 190 #[.agg nd.cells] w fun e w' => e = .returned (.int .i64 (wormKind nd.kind : Int)) /\ Below w.heap.size w w':=by
 have hb:=qh ((Below.refl w.heap.size w).alloc (Nat.le_refl _) (.cells nd.cells 34))
 unfold Nd.cells at *
 by_cases h1 : nd.kind = 1
 ·rw [h1]
  rw [h1] at hb
  go_enter Tryz.func190,Tryz.ntmps190
  go_wp2_with fail
  go_ret
  exact ⟨rfl,hb.out⟩
 ·by_cases h2 : nd.kind = 2
  ·rw [h2]
   rw [h2] at hb
   go_enter Tryz.func190,Tryz.ntmps190
   go_wp2_with fail
   go_ret
   exact ⟨rfl,hb.out⟩
  ·have hk : wormKind nd.kind = 30:=by unfold wormKind; rw [if_neg h1,if_neg h2]
   rw [hk]
   go_enter Tryz.func190,Tryz.ntmps190
   go_wp2_with fail
   go_ret
   exact ⟨rfl,hb.out⟩
theorem right_clock (u : Nat) (w : World) : Calls Tryz.prog 136 #[.int .u64 (u : Int)] w fun e w' => e = .returned (.bool (decide (u <= MTn))) /\ w = w':=by
 go_enter Tryz.func136,Tryz.ntmps136
 go_wp2_with fail
 go_ret
 exact ⟨ret_bool (by rw [Bool.eq_iff_iff]; unfold MTn; simp; omega),rfl⟩
theorem due_any (now u : Nat) (w : World) : Calls Tryz.prog 191 #[.int .u64 (now : Int),.int .u64 (u : Int)] w fun e w' => e = .returned (.bool (decide (u <= now))) /\ w = w':=by
 go_enter Tryz.func191,Tryz.ntmps191
 go_wp2_with fail
 go_ret
 exact ⟨ret_bool (by first | rfl | (rw [Bool.eq_iff_iff]; simp; done)),rfl⟩
theorem wkeep_any (nd : Nd) (u : Nat) (w : World) : Calls Tryz.prog 131 #[.agg nd.cells,.int .u64 (u : Int)] w fun e w' => e = .returned (.int .i64 (wormKeep nd u : Int)) /\ Below w.heap.size w w':=by
 obtain ⟨w0,hw0⟩:=qnm (w.alloc (.cells nd.cells 34))
 have hb0:=qba hw0
 have hz0 : w0.heap[w.heap.size]? = some (.cells nd.cells 34 (0,0)):=by rw [hw0]; exact heap_alloc_new w _
 have HK:=qh (kind_any nd w0)
 have hlt : w.heap.size < w0.heap.size:=by rw [hw0]; simp
 have n0 : w0.cell? ⟨w.heap.size,0,none⟩ = some (.int .i64 nd.id):=cells_at hz0 0
 have n1 : w0.cell? ⟨w.heap.size,1,none⟩ = some (.int .i64 nd.kind):=cells_at hz0 1
 have n2 : w0.cell? ⟨w.heap.size,2,none⟩ = some (.int .i64 nd.links):=cells_at hz0 2
 have n3 : w0.cell? ⟨w.heap.size,3,none⟩ = some (.int .i64 nd.size):=cells_at hz0 3
 have n4 : w0.cell? ⟨w.heap.size,4,none⟩ = some (.int .u64 (nd.til : Int)):=cells_at hz0 4
 have n5 : w0.cell? ⟨w.heap.size,5,none⟩ = some (.bool nd.closed):=cells_at hz0 5
 have HW0:=qh hw0
 have HZ0:=qh hz0
 have HB0:=qh (aI hb0 hlt)
 have hwk : wormKeep nd u = if wormKind nd.kind ≠ 0 then wormKind nd.kind else if nd.closed = false then 25 else if u < nd.til then 28 else if MTn < u then 1 else 0:=rfl
 have HWK:=qh hwk
 generalize wormKeep nd u = r at *
 generalize wormKind nd.kind = k at *
 obtain ⟨cl,hcl⟩:=qnm nd.closed
 obtain ⟨tl,htl⟩:=qnm nd.til
 rw [<- hcl] at n5 HWK
 rw [<- htl] at n4 HWK
 unfold Nd.cells at HK HW0 ⊢
 rw [<- hcl,<- htl] at HK HW0 ⊢
 clear hw0 hz0 hb0 hlt hwk hcl htl
 go_enter Tryz.func131,Tryz.ntmps131
 go_upto_region 1 with fail
 rw [<- HW0.out]
 obtain ⟨N,hN⟩:=qnm w.heap.size
 rw [<- hN] at n0 n1 n2 n3 n4 n5 HB0 ⊢
 have HN:=qh hN
 clear hN HW0 HZ0
 go_wp2_with fail
 refine HK.out.mono ?_
 rintro e w1 ⟨rfl,hb1⟩
 have n4:=(hb1.cell (p:=⟨N,4,none⟩) HB0.out.2).trans n4
 have n5:=(hb1.cell (p:=⟨N,5,none⟩) HB0.out.2).trans n5
 have HB1:=qh (show Below w.heap.size w w1 by rw [<- HN.out]; exact HB0.out.1.trans (hb1.mono (Nat.le_of_lt HB0.out.2)))
 clear hb1 n0 n1 n2 n3
 by_cases hk : k = 0
 ·subst hk
  cases cl with
  | false =>
   go_wp2_with fail
   go_ret
   exact ⟨by rw [HWK.out]; rfl,HB1.out⟩
  | true =>
   by_cases h28 : u < tl
   ·have e28 : (u : Int) < (tl : Int):=by omega
    have HR:=qh (show r = 28 by rw [HWK.out,if_neg (by simp),if_neg (by simp),if_pos h28])
    clear h28
    go_wp2_with fail
    go_ret
    exact ⟨by rw [HR.out]; rfl,HB1.out⟩
   ·have e28 : ¬ (u : Int) < (tl : Int):=by omega
    have HRC:=qh (right_clock u w1)
    by_cases h1 : MTn < u
    ·have HR:=qh (show r = 1 by rw [HWK.out,if_neg (by simp),if_neg (by simp),if_neg h28,if_pos h1])
     rw [decide_eq_false (by omega)] at HRC
     clear h28 h1
     go_wp2_with fail
     refine HRC.out.mono ?_
     rintro e w2 ⟨rfl,rfl⟩
     go_wp2_with fail
     go_ret
     exact ⟨by rw [HR.out]; rfl,HB1.out⟩
    ·have HR:=qh (show r = 0 by rw [HWK.out,if_neg (by simp),if_neg (by simp),if_neg h28,if_neg h1])
     rw [decide_eq_true (by omega)] at HRC
     clear h28 h1
     go_wp2_with fail
     refine HRC.out.mono ?_
     rintro e w2 ⟨rfl,rfl⟩
     go_wp2_with fail
     go_ret
     exact ⟨by rw [HR.out]; rfl,HB1.out⟩
 ·have hk1 : ¬ (k : Int) = 0:=by omega
  have HR:=qh (show r = k by rw [HWK.out,if_pos hk])
  clear hk
  go_wp2_with fail
  go_ret
  exact ⟨by rw [HR.out]; rfl,HB1.out⟩
theorem wremove_any (nd : Nd) (now : Nat) (w : World) : Calls Tryz.prog 126 #[.agg nd.cells,.int .u64 (now : Int)] w fun e w' => e = .returned (.int .i64 (wormRemove nd now : Int)) /\ Below w.heap.size w w':=by
 obtain ⟨w0,hw0⟩:=qnm (w.alloc (.cells nd.cells 34))
 have hb0:=qba hw0
 have hz0 : w0.heap[w.heap.size]? = some (.cells nd.cells 34 (0,0)):=by rw [hw0]; exact heap_alloc_new w _
 have HK:=qh (kind_any nd w0)
 have hlt : w.heap.size < w0.heap.size:=by rw [hw0]; simp
 have n0 : w0.cell? ⟨w.heap.size,0,none⟩ = some (.int .i64 nd.id):=cells_at hz0 0
 have n1 : w0.cell? ⟨w.heap.size,1,none⟩ = some (.int .i64 nd.kind):=cells_at hz0 1
 have n2 : w0.cell? ⟨w.heap.size,2,none⟩ = some (.int .i64 nd.links):=cells_at hz0 2
 have n3 : w0.cell? ⟨w.heap.size,3,none⟩ = some (.int .i64 nd.size):=cells_at hz0 3
 have n4 : w0.cell? ⟨w.heap.size,4,none⟩ = some (.int .u64 (nd.til : Int)):=cells_at hz0 4
 have n5 : w0.cell? ⟨w.heap.size,5,none⟩ = some (.bool nd.closed):=cells_at hz0 5
 have HW0:=qh hw0
 have HB0:=qh (aI hb0 hlt)
 have hwk : wormRemove nd now = if wormKind nd.kind = 0 /\ nd.closed = true /\ nd.links <= 1 /\ now < nd.til then 28 else wormKind nd.kind:=rfl
 have HWK:=qh hwk
 generalize wormRemove nd now = r at *
 generalize wormKind nd.kind = k at *
 obtain ⟨cl,hcl⟩:=qnm nd.closed
 obtain ⟨tl,htl⟩:=qnm nd.til
 obtain ⟨lk,hlk⟩:=qnm nd.links
 rw [<- hcl] at n5 HWK
 rw [<- htl] at n4 HWK
 rw [<- hlk] at n2 HWK
 unfold Nd.cells at HK HW0 ⊢
 rw [<- hcl,<- htl,<- hlk] at HK HW0 ⊢
 clear hw0 hz0 hb0 hlt hwk hcl htl hlk
 go_enter Tryz.func126,Tryz.ntmps126
 go_upto_region 1 with fail
 rw [<- HW0.out]
 obtain ⟨N,hN⟩:=qnm w.heap.size
 rw [<- hN] at n0 n1 n2 n3 n4 n5 HB0 ⊢
 have HN:=qh hN
 clear hN HW0
 go_wp2_with fail
 refine HK.out.mono ?_
 rintro e w1 ⟨rfl,hb1⟩
 have n2:=(hb1.cell (p:=⟨N,2,none⟩) HB0.out.2).trans n2
 have n4:=(hb1.cell (p:=⟨N,4,none⟩) HB0.out.2).trans n4
 have n5:=(hb1.cell (p:=⟨N,5,none⟩) HB0.out.2).trans n5
 have HB1:=qh (show Below w.heap.size w w1 by rw [<- HN.out]; exact HB0.out.1.trans (hb1.mono (Nat.le_of_lt HB0.out.2)))
 clear hb1 n0 n1 n3
 have HD:=qh (due_any now tl w1)
 by_cases hk : k = 0
 ·subst hk
  cases cl with
  | false =>
   have HR:=qh (show r = 0 by rw [HWK.out,if_neg (by simp)])
   go_wp2_with fail
   go_ret
   exact ⟨by rw [HR.out]; rfl,HB1.out⟩
  | true =>
   by_cases hl : lk <= 1
   ·by_cases ht : now < tl
    ·have HR:=qh (show r = 28 by rw [HWK.out,if_pos ⟨rfl,rfl,hl,ht⟩])
     rw [decide_eq_false (by omega)] at HD
     clear ht
     go_wp2_with fail
     refine HD.out.mono ?_
     rintro e w2 ⟨rfl,rfl⟩
     go_wp2_with fail
     go_ret
     exact ⟨by rw [HR.out]; rfl,HB1.out⟩
    ·have HR:=qh (show r = 0 by rw [HWK.out,if_neg (by simp; omega)])
     rw [decide_eq_true (by omega)] at HD
     clear ht
     go_wp2_with fail
     refine HD.out.mono ?_
     rintro e w2 ⟨rfl,rfl⟩
     go_wp2_with fail
     go_ret
     exact ⟨by rw [HR.out]; rfl,HB1.out⟩
   ·have HR:=qh (show r = 0 by rw [HWK.out,if_neg (by simp; omega)])
    go_wp2_with fail
    go_ret
    exact ⟨by rw [HR.out]; rfl,HB1.out⟩
 ·have hk1 : ¬ (k : Int) = 0:=by omega
  have HR:=qh (show r = k by rw [HWK.out,if_neg (fun h => hk h.1)])
  clear hk
  go_wp2_with fail
  go_ret
  exact ⟨by rw [HR.out]; rfl,HB1.out⟩
end
section
open Go.RowKit Go.ChangeMaps Go.MapKept
variable {w w' : World} {L B C s t sn c : Nat} {fp : Nat -> Option Nat} {σ : StM}
def keepS (σ : StM) (p : List (List UInt8)) (u : Nat) : StM × Nat :=
 if (nodeS σ.T p).2 ≠ 0 then (σ,(nodeS σ.T p).2)
 else if wormKeep (nodeS σ.T p).1 u ≠ 0 then (σ,wormKeep (nodeS σ.T p).1 u)
 else (⟨(keepT σ.T (lookP σ.T p).1 u).2,σ.S,σ.now,σ.fds⟩,(keepT σ.T (lookP σ.T p).1 u).1)
theorem nodeS_ok {c : Nat} {T : Tr} (ok : TrOk c T) (p : List (List UInt8)) (h : (nodeS T p).2 = 0) : ∃ x,getK (lookP T p).1 T = some x /\ (nodeS T p).1 = x.n /\ (lookP T p).2 = 0:=by
 unfold nodeS at h ⊢
 by_cases h0 : (lookP T p).2 ≠ 0
 ·rw [if_pos h0] at h; exact absurd h h0
 ·obtain ⟨x,hx⟩:=lookP_ok ok p (by omega)
  rw [if_neg h0,hx]
  exact ⟨x,rfl,rfl,by omega⟩
theorem stkeep_any (h : StIn w L B C s t sn fp σ) (ok : TrOk c σ.T) (hc : c <= 60000) (hCB : C <= B) (hB : B <= w.heap.size) (a : Option Addr) (n cap : Nat) (p : List (List UInt8)) (hS : Ss w a n cap p) (hm : ∀ s ∈ p,s.length <= 1000000) (u : Nat) :
  Calls Tryz.prog 57 #[.pointer (some ⟨s,0,none⟩),.slice a n cap,.int .u64 (u : Int)] w fun e w' => e = .returned (.int .i64 ((keepS σ p u).2 : Int)) /\ (∃ fp',StIn w' L B C s t sn fp' (keepS σ p u).1) /\ Fr B w w':=by
 have HND:=qh (stnode_any h ok hc (Nat.le_trans hCB hB) a n cap p hS hm)
 have hnk:=nodeS_ok ok p
 have hks : keepS σ p u = if (nodeS σ.T p).2 ≠ 0 then (σ,(nodeS σ.T p).2) else if wormKeep (nodeS σ.T p).1 u ≠ 0 then (σ,wormKeep (nodeS σ.T p).1 u) else (⟨(keepT σ.T (lookP σ.T p).1 u).2,σ.S,σ.now,σ.fds⟩,(keepT σ.T (lookP σ.T p).1 u).1):=rfl
 generalize nodeS σ.T p = nd at *
 generalize (lookP σ.T p).1 = i at *
 have HKS:=qh (aI hks hnk)
 have HH:=qh (aI h (aI ok hB))
 obtain ⟨nd,why⟩:=nd
 simp only at HND HKS
 have HWK:=qh (fun w => wkeep_any nd u w)
 clear h ok hS hm hks hnk
 unfold Nd.cells at HND HWK
 go_enter Tryz.func57,Tryz.ntmps57
 go_wp2_with fail
 refine HND.out.mono ?_
 rintro e w1 ⟨rfl,hb1⟩
 have hba:=(Below.refl w1.heap.size w1).alloc (Nat.le_refl _) (.cells #[.int .i64 nd.id,.int .i64 nd.kind,.int .i64 nd.links,.int .i64 nd.size,.int .u64 (nd.til : Int),.bool nd.closed] TNode)
 have hb2:=hb1.trans (hba.mono hb1.size)
 have hz2:=heap_alloc_new w1 (.cells #[.int .i64 nd.id,.int .i64 nd.kind,.int .i64 nd.links,.int .i64 nd.size,.int .u64 (nd.til : Int),.bool nd.closed] TNode)
 obtain ⟨w2,hw2⟩:=qnm (w1.alloc (.cells #[.int .i64 nd.id,.int .i64 nd.kind,.int .i64 nd.links,.int .i64 nd.size,.int .u64 (nd.til : Int),.bool nd.closed] TNode))
 rw [<- hw2] at hb2 hz2
 have HW2:=qh hw2
 have HB2:=qh (aI hb2 (aI hz2 (show w1.heap.size < w2.heap.size by rw [hw2]; simp)))
 clear hba hb1 hb2 hz2 hw2
 go_upto_region 2 with fail
 rw [<- HW2.out]
 obtain ⟨N,hN⟩:=qnm w1.heap.size
 rw [<- hN] at HB2 ⊢
 clear hN HW2
 obtain ⟨hb2,hz2,hN2⟩:=HB2.out
 have n0 : w2.cell? ⟨N,0,none⟩ = some (.int .i64 nd.id):=cells_at hz2 0
 have n1 : w2.cell? ⟨N,1,none⟩ = some (.int .i64 nd.kind):=cells_at hz2 1
 have n2 : w2.cell? ⟨N,2,none⟩ = some (.int .i64 nd.links):=cells_at hz2 2
 have n3 : w2.cell? ⟨N,3,none⟩ = some (.int .i64 nd.size):=cells_at hz2 3
 have n4 : w2.cell? ⟨N,4,none⟩ = some (.int .u64 (nd.til : Int)):=cells_at hz2 4
 have n5 : w2.cell? ⟨N,5,none⟩ = some (.bool nd.closed):=cells_at hz2 5
 clear hb2 hz2 hN2
 by_cases hw : why = 0
 ·subst hw
  obtain ⟨x,hx,hxn,_⟩:=HKS.out.2 rfl
  have HXX:=qh (aI hx hxn)
  clear hx hxn
  go_wp2_with fail
  refine (HWK.out w2).mono ?_
  rintro e w3 ⟨rfl,hb3⟩
  have hb13:=HB2.out.1.trans (hb3.mono HB2.out.1.size)
  have hn0:=(hb3.cell (p:=⟨N,0,none⟩) HB2.out.2.2).trans n0
  obtain ⟨k,hk⟩:=qnm (wormKeep nd u)
  rw [<- hk]
  have HK:=qh hk
  have HB3:=qh hb13
  clear hb3 hb13 n0 n1 n2 n3 n4 n5 hk
  by_cases hk0 : k = 0
  ·subst hk0
   have hid : nd.id = (i : Int):=by rw [HXX.out.2]; exact (HH.out.2.1.nd i x HXX.out.1).2.1
   have hi:=(HH.out.2.1.nd i x HXX.out.1).1
   rw [hid] at hn0
   have hS3:=HH.out.1.below (Nat.le_trans hCB HH.out.2.2) HB3.out
   have c0 : w3.cell? ⟨s,0,none⟩ = some (.pointer (some ⟨t,0,none⟩)):=cells_at hS3.cel 0
   obtain ⟨mb,F,G,hT⟩:=hS3.tree
   have HTK:=qh (tkeep_any (hT.below (Below.refl _ w3).drew) HH.out.2.1 i u (by omega))
   have hB3 : B <= w3.heap.size:=Nat.le_trans HH.out.2.2 HB3.out.size
   have HS3:=qh (aI (hS3.below (Nat.le_trans hCB hB3) (Below.refl _ w3).drew) hB3)
   have HR:=qh (show keepS σ p u = (⟨(keepT σ.T i u).2,σ.S,σ.now,σ.fds⟩,(keepT σ.T i u).1) by rw [HKS.out.1,if_neg (by simp),if_neg (by rw [<- HK.out]; simp)])
   clear hS3 hT hid hi hB3
   go_upto_region 6 with fail
   refine wp_tailb 7 (by kernel_rfl) (by kernel_rfl) rfl ?_
   simp only [List.take_succ_cons,List.take_zero,List.drop_succ_cons,List.drop_zero,List.map_cons,List.map_nil,bare]
   repeat still_step
   refine wpStill_nil ?_
   go_wp2_with fail
   refine HTK.out.mono ?_
   rintro e w4 ⟨rfl,hT4,hC4⟩
   have hS4 : StIn w4 L B C s t sn fp ⟨(keepT σ.T i u).2,σ.S,σ.now,σ.fds⟩:=HS3.out.1.setTree hCB HS3.out.2 hC4 ⟨_,_,_,hT4⟩
   have hb4 : Fr B w w4:=((Fr.of HB3.out HH.out.2.2).trans (Fr.of (Below.refl _ w3).drew HS3.out.2)).trans (Fr.tchg hC4 HS3.out.2)
   have HF:=qh (aI hS4 hb4)
   clear hT4 hC4 hS4 hb4
   go_wp2_with fail
   go_ret
   rw [HR.out]
   exact ⟨rfl,⟨fp,HF.out.1⟩,HF.out.2⟩
  ·have hk1 : ¬ (k : Int) = 0:=by omega
   have HR:=qh (show keepS σ p u = (σ,k) by rw [HKS.out.1,if_neg (by simp),if_pos (by rw [<- HK.out]; exact hk0),<- HK.out])
   clear hk0
   go_wp2_with fail
   go_ret
   rw [HR.out]
   exact ⟨rfl,⟨fp,HH.out.1.below (Nat.le_trans hCB HH.out.2.2) HB3.out⟩,Fr.of HB3.out HH.out.2.2⟩
 ·have hw1 : ¬ (why : Int) = 0:=by omega
  have HR:=qh (show keepS σ p u = (σ,why) by rw [HKS.out.1,if_pos hw])
  clear hw
  go_wp2_with fail
  go_ret
  rw [HR.out]
  exact ⟨rfl,⟨fp,HH.out.1.below (Nat.le_trans hCB HH.out.2.2) HB2.out.1⟩,Fr.of HB2.out.1 HH.out.2.2⟩
end
section
open Go.RowKit Go.ChangeMaps Go.MapKept
variable {w w' : World} {L B C s t sn c : Nat} {fp : Nat -> Option Nat} {σ : StM}
def unlWhy (σ : StM) (p : List (List UInt8)) : Nat:=if (nodeS σ.T p).2 ≠ 0 then (nodeS σ.T p).2 else wormRemove (nodeS σ.T p).1 σ.now
theorem unlno_any (h : StIn w L B C s t sn fp σ) (ok : TrOk c σ.T) (hc : c <= 60000) (hCB : C <= B) (hB : B <= w.heap.size) (a : Option Addr) (n cap : Nat) (p : List (List UInt8)) (hS : Ss w a n cap p) (hm : ∀ s ∈ p,s.length <= 1000000) (hn : unlWhy σ p ≠ 0) :
  Calls Tryz.prog 53 #[.pointer (some ⟨s,0,none⟩),.slice a n cap] w fun e w' => e = .returned (.int .i64 (unlWhy σ p : Int)) /\ Below w.heap.size w w':=by
 have HND:=qh (stnode_any h ok hc (Nat.le_trans hCB hB) a n cap p hS hm)
 have hks : unlWhy σ p = if (nodeS σ.T p).2 ≠ 0 then (nodeS σ.T p).2 else wormRemove (nodeS σ.T p).1 σ.now:=rfl
 generalize nodeS σ.T p = nd at *
 have HKS:=qh (aI hks hn)
 have HH:=qh (aI h hB)
 obtain ⟨nd,why⟩:=nd
 simp only at HND HKS
 have HWK:=qh (fun w => wremove_any nd σ.now w)
 clear h ok hS hm hks hn
 unfold Nd.cells at HND HWK
 go_enter Tryz.func53,Tryz.ntmps53
 go_wp2_with fail
 refine HND.out.mono ?_
 rintro e w1 ⟨rfl,hb1⟩
 have hba:=(Below.refl w1.heap.size w1).alloc (Nat.le_refl _) (.cells #[.int .i64 nd.id,.int .i64 nd.kind,.int .i64 nd.links,.int .i64 nd.size,.int .u64 (nd.til : Int),.bool nd.closed] TNode)
 have hb2:=hb1.trans (hba.mono hb1.size)
 have hz2:=heap_alloc_new w1 (.cells #[.int .i64 nd.id,.int .i64 nd.kind,.int .i64 nd.links,.int .i64 nd.size,.int .u64 (nd.til : Int),.bool nd.closed] TNode)
 obtain ⟨w2,hw2⟩:=qnm (w1.alloc (.cells #[.int .i64 nd.id,.int .i64 nd.kind,.int .i64 nd.links,.int .i64 nd.size,.int .u64 (nd.til : Int),.bool nd.closed] TNode))
 rw [<- hw2] at hb2 hz2
 have HW2:=qh hw2
 have HB2:=qh hb2
 have HZ2:=qh hz2
 clear hba hb1 hb2 hz2 hw2
 go_upto_region 2 with fail
 rw [<- HW2.out]
 obtain ⟨N,hN⟩:=qnm w1.heap.size
 rw [<- hN] at HZ2 ⊢
 clear hN HW2
 have hz2:=HZ2.out
 have n0 : w2.cell? ⟨N,0,none⟩ = some (.int .i64 nd.id):=cells_at hz2 0
 have n1 : w2.cell? ⟨N,1,none⟩ = some (.int .i64 nd.kind):=cells_at hz2 1
 have n2 : w2.cell? ⟨N,2,none⟩ = some (.int .i64 nd.links):=cells_at hz2 2
 have n3 : w2.cell? ⟨N,3,none⟩ = some (.int .i64 nd.size):=cells_at hz2 3
 have n4 : w2.cell? ⟨N,4,none⟩ = some (.int .u64 (nd.til : Int)):=cells_at hz2 4
 have n5 : w2.cell? ⟨N,5,none⟩ = some (.bool nd.closed):=cells_at hz2 5
 have c2 : w2.cell? ⟨s,2,none⟩ = some (.int .u64 (σ.now : Int)):=cells_at (HH.out.1.below (Nat.le_trans hCB HH.out.2) HB2.out).cel 2
 clear hz2
 by_cases hw : why = 0
 ·subst hw
  have HR:=qh (show unlWhy σ p = wormRemove nd σ.now by rw [HKS.out.1,if_neg (by simp)])
  have hk1 : ¬ (unlWhy σ p : Int) = 0:=by have:=HKS.out.2; omega
  go_upto_region 3 with fail
  refine wp_tailb 5 (by kernel_rfl) (by kernel_rfl) rfl ?_
  simp only [List.take_succ_cons,List.take_zero,List.drop_succ_cons,List.drop_zero,List.map_cons,List.map_nil,bare]
  repeat still_step
  refine wpStill_nil ?_
  go_wp2_with fail
  refine (HWK.out w2.drew).mono ?_
  rintro e w3 ⟨rfl,hb3⟩
  rw [<- HR.out]
  have HB3:=qh (HB2.out.trans (((Below.refl _ w2).drew.trans hb3).mono HB2.out.size))
  clear hb3 n0 n1 n2 n3 n4 n5 c2
  go_wp2_with fail
  go_ret
  exact ⟨rfl,HB3.out⟩
 ·have hw1 : ¬ (why : Int) = 0:=by omega
  have HR:=qh (show unlWhy σ p = why by rw [HKS.out.1,if_pos hw])
  clear hw
  go_wp2_with fail
  go_ret
  rw [HR.out]
  exact ⟨rfl,HB2.out⟩
end
end Go.Proofs.YtabdcphioccgnaaGreatDoor
