/- LogOpen; MSave. -/
import Derived.Test.YtabdcphioccgnaaGreatDoorK36
set_option maxRecDepth 100000
set_option maxHeartbeats 8000000
namespace Go.Proofs.YtabdcphioccgnaaGreatDoor
section
open Go.RowKit Go.ChangeMaps Go.MapKept
theorem pl_cells {w : World} {b : Nat} {s p g : Int} {ty : TypeId} (h : w.heap[b]? = some (.cells #[.int .i64 s,.int .i64 p,.int .i64 g] ty (0,0))) :
  w.cell? ⟨b,0,none⟩ = some (.int .i64 s) /\ w.cell? ⟨b,1,none⟩ = some (.int .i64 p) /\ w.cell? ⟨b,2,none⟩ = some (.int .i64 g):=⟨cells_at h 0,cells_at h 1,cells_at h 2⟩
def openM (fr : Nat) (id head : List UInt8) (next : Nat) : LogM:=⟨fr,if fr = 0 then sha (3 :: id) else head,if fr = 0 then 1 else next,[]⟩
abbrev TPlan : TypeId:=56
theorem lopen_none {w : World} {d sb mb n : Nat} {S : List UInt8} (hD : Dk w d sb mb n S (fun _ => none)) (s p g : Int) (hp : isPlan s p g) (hs : s = n) (ia ha : Option Addr) (ic hc : Nat) (id head : List UInt8) (hI : Bs w ia 16 ic id) (hH : Bs w ha 32 hc head) (fr next : Nat) (hfr : (fr : Int) <= g) (hn1 : 1 <= next) (hn2 : next <= 1099511627776)
  (first : Nat) (hf : (fr : Int) < g -> (first : Int) = 1 + 2 * p + fr * 8 /\ first + 8 <= n /\ catS S (fun _ => none) first 8 = List.replicate 1024 0) :
  Calls Tryz.prog 85 #[.pointer (some ⟨d,0,none⟩),.agg #[.int .i64 s,.int .i64 p,.int .i64 g],.slice ia 16 ic,.int .i64 (fr : Int),.slice ha 32 hc,.int .u64 (next : Int)] w fun e w' =>
   ∃ l,e = .returned (.tuple #[.pointer (some ⟨l,0,none⟩),.slice none 0 0,.int .i64 0]) /\ w.heap.size <= l /\ (∃ hv,LogIn w' w.heap.size l d s p g hv (.slice none 0 0) (openM fr id head next)) /\ Below w.heap.size w w':=by
 obtain ⟨w0,hw0⟩:=qnm (w.alloc (.cells #[.int .i64 s,.int .i64 p,.int .i64 g] TPlan))
 have hb0:=qba hw0
 have hz0 : w0.heap[w.heap.size]? = some (.cells #[.int .i64 s,.int .i64 p,.int .i64 g] TPlan (0,0)):=by rw [hw0]; exact heap_alloc_new w _
 obtain ⟨N,hN⟩:=qnm w.heap.size
 rw [<- hN] at hz0
 have hbd:=hp.bd
 have HW0:=qh (aI hw0 (aI hb0 (aI hz0 hN)))
 have HRT:=qh (fun W => right_ok s p g W hp)
 have HSE:=qh (fun W (hb : Below w.heap.size w W) => sectors_any (hD.below hb))
 have HX:=qh (aI hD (aI hp (aI hI (aI hH (aI hf hs)))))
 have hns : (s != (n : Int)) = false:=by rw [bne_eq_false_iff_eq]; exact hs
 have hf0 : decide ((fr : Int) < 0) = false:=decide_eq_false (by omega)
 have hfg : decide (g < (fr : Int)) = false:=decide_eq_false (by omega)
 have hna : decide ((next : Int) < 1) = false:=decide_eq_false (by omega)
 have hnb : decide ((1099511627776 : Int) < (next : Int)) = false:=decide_eq_false (by omega)
 have HG:=qh (aI hfr (aI hn1 (aI hn2 hbd)))
 clear hD hp hI hH hf hs hw0 hb0 hz0 hN hfr hn1 hn2 hbd
 go_enter Tryz.func85,Tryz.ntmps85
 go_upto_region 1 with fail
 rw [<- HW0.out.1,<- HW0.out.2.2.2]
 refine heldB_start (fun i => [0,1,2,3,4,5,6,7,8,9,10,11,12,13,14,15,16,17,18,19,20,21,22,23,24,25,26,27,28,29,30,31,32,33,34,35,36].contains i) (fun w' => w'.cell? ⟨N,0,none⟩ = some (.int .i64 s) /\ w'.cell? ⟨N,1,none⟩ = some (.int .i64 p) /\ w'.cell? ⟨N,2,none⟩ = some (.int .i64 g)) (by kernel_rfl) ?_ (fun hHeld => ?_)
 ·exact pl_cells HW0.out.2.2.1
 refine qtk 0 20 ?_
 simp only [qz0,qz1]
 refine qtk 1 21 ?_
 simp only [qz0,qz1]
 refine qtk 2 22 ?_
 simp only [qz0,qz1]
 refine qtk 3 23 ?_
 simp only [qz0,qz1]
 refine qone 4 fun K hK => ?_
 go_simp
 refine (HRT.out _).mono ?_
 rintro e w1 ⟨rfl,hb1⟩
 have H1:=qh (show Below w0.heap.size w0 w1 from (Below.refl _ _).drew.trans hb1)
 have hHeld:=pl_cells ((H1.out.block N (ltH HW0.out.2.2.1)).trans HW0.out.2.2.1)
 clear hb1
 go_wp2_with fail
 refine hK.out _ _ (fun _ => hHeld) ?_
 clear hK K
 refine qtk 5 25 ?_
 simp only [qz0,qz1]
 refine qtk 6 26 ?_
 simp only [qz0,qz1]
 refine qtk 7 27 ?_
 simp only [qz0,qz1]
 refine qtk 8 28 ?_
 simp only [qz0,qz1]
 refine qtk 9 29 ?_
 simp only [qz0,qz1]
 refine qtk 10 30 ?_
 simp only [qz0,qz1]
 refine qone 11 fun K hK => ?_
 go_simp
 refine (HSE.out w1 (HW0.out.2.1.trans (H1.out.mono HW0.out.2.1.size))).mono ?_
 rintro e w2 ⟨rfl,rfl⟩
 go_wp2_with fail
 refine hK.out _ _ (fun _ => hHeld) ?_
 clear hK K
 refine qtk 12 32 ?_
 simp only [qz0,qz1]
 refine qtk 13 33 ?_
 simp only [qz0,qz1]
 refine qtk 14 34 ?_
 simp only [qz0,qz1]
 refine qtk 15 35 ?_
 simp only [qz0,qz1]
 refine qtk 16 36 ?_
 simp only [qz0,qz1]
 refine qtk 17 37 ?_
 simp only [qz0,qz1]
 refine qtk 18 38 ?_
 simp only [qz0,qz1]
 refine qtk 19 39 ?_
 simp only [qz0,qz1]
 refine qtk 20 40 ?_
 simp only [qz0,qz1]
 refine qtk 21 41 ?_
 simp only [qz0,qz1]
 refine qtk 22 42 ?_
 simp only [qz0,qz1]
 refine qtk 23 43 ?_
 simp only [qz0,qz1]
 refine qtk 24 44 ?_
 simp only [qz0,qz1]
 refine qtk 25 45 ?_
 simp only [qz0,qz1]
 refine qtk 26 46 ?_
 simp only [qz0,qz1]
 refine qtk 27 47 ?_
 simp only [qz0,qz1]
 refine qtk 28 48 ?_
 simp only [qz0,qz1]
 refine qtk 29 49 ?_
 simp only [qz0,qz1]
 refine qtk 30 50 ?_
 simp only [qz0,qz1]
 refine qtk 31 51 ?_
 simp only [qz0,qz1]
 refine qtk 32 52 ?_
 simp only [qz0,qz1]
 refine qtk 33 53 ?_
 simp only [qz0,qz1]
 refine qtk 34 54 ?_
 simp only [qz0,qz1]
 refine qtk 35 55 ?_
 simp only [qz0,qz1]
 refine qtk 36 56 ?_
 simp only [qz0,qz1]
 refine qdon ?_
 clear hHeld HRT HSE
 go_upto_region 3 with fail
 have hz1:=(H1.out.block N (ltH HW0.out.2.2.1)).trans HW0.out.2.2.1
 have hbw1 : Below w.heap.size w w1:=HW0.out.2.1.trans (H1.out.mono HW0.out.2.1.size)
 have HCL:=qh (clone_any ha 32 hc head w1.drew (HX.out.2.2.2.1.below hbw1.drew) (by unfold big; decide))
 have HB1:=qh hbw1
 clear hbw1
 refine heldB_start (fun i => [0,1,2,3,4,5,6,7].contains i) (fun w' => w'.cell? ⟨N,0,none⟩ = some (.int .i64 s) /\ w'.cell? ⟨N,1,none⟩ = some (.int .i64 p) /\ w'.cell? ⟨N,2,none⟩ = some (.int .i64 g)) (by kernel_rfl) ?_ (fun hHeld => ?_)
 ·exact pl_cells hz1
 refine qtk 0 57 ?_
 simp only [qz0,qz1]
 refine qtk 1 58 ?_
 simp only [qz0,qz1]
 refine qtk 2 59 ?_
 simp only [qz0,qz1]
 refine qtk 3 60 ?_
 simp only [qz0,qz1]
 refine qtk 5 62 ?_
 simp only [qz0,qz1]
 refine qone 4 fun K hK => ?_
 go_simp
 refine HCL.out.mono ?_
 rintro e w2 ⟨v2,rfl,ho2,hb2⟩
 obtain ⟨a2,k2,rfl,_⟩:=ho2.bsn (n:=32) HX.out.2.2.2.1.1
 have H2:=qh (aI ho2 (show Below w1.heap.size w1 w2 from (Below.refl _ _).drew.trans hb2))
 have hz2:=(H2.out.2.block N (ltH hz1)).trans hz1
 have hHeld:=pl_cells hz2
 clear ho2 hb2
 go_wp2_with fail
 refine hK.out _ _ (fun _ => hHeld) ?_
 clear hK K
 refine qtk 6 63 ?_
 simp only [qz0,qz1]
 refine qone 7 fun K hK => ?_
 go_simp
 obtain ⟨w3,hw3⟩:=qnm (w2.alloc (.cells (logC d s p g fr (.slice a2 32 k2) next (.slice none 0 0)) TLog))
 have hb3:=qba hw3
 have hl3 : w3.heap[w2.heap.size]? = some (.cells (logC d s p g fr (.slice a2 32 k2) next (.slice none 0 0)) TLog (0,0)):=by rw [hw3]; exact heap_alloc_new w2 _
 have hz3:=(hb3.block N (ltH hz2)).trans hz2
 have hHeld:=pl_cells hz3
 unfold logC at hw3
 rw [<- hw3]
 refine hK.out _ _ (fun _ => hHeld) ?_
 clear hK K
 refine qfr 8 15 ?_
 simp only [qz0,qz1]
 refine qdon ?_
 clear hHeld HCL hw3
 obtain ⟨l,hl⟩:=qnm w2.heap.size
 rw [<- hl] at hl3 ⊢
 obtain ⟨ho2,hb12⟩:=H2.out
 have hbw2 : Below w.heap.size w w2:=HB1.out.trans (hb12.mono HB1.out.size)
 have hbw3 : Below w.heap.size w w3:=hbw2.trans (hb3.mono hbw2.size)
 have hLl : w.heap.size <= l:=by rw [hl]; exact hbw2.size
 have hln : l ≠ N:=by have:=ltH hz2; omega
 have H3:=qh (show LogIn w3 w.heap.size l d s p g (.slice a2 32 k2) (.slice none 0 0) ⟨fr,head,next,[]⟩ /\ Below w.heap.size w w3 /\ w3.heap[N]? = some (.cells #[.int .i64 s,.int .i64 p,.int .i64 g] TPlan (0,0)) from
  ⟨⟨hl3,(ho2.base HB1.out.size).below hb3,OwnR.nil _ _⟩,hbw3,hz3⟩)
 have HLL:=qh (aI hLl hln)
 clear hl ho2 hb12 hbw2 hbw3 hLl hln hl3 hb3 hz3 hz2 hz1 H2 hns hf0 hfg hna hnb
 go_upto_region 4 with fail
 go_cut [66] (fun v wx => v = .bool (decide (fr = 0)) /\ wx = w3)
 case first =>
  by_cases h0 : fr = 0
  ·subst h0
   go_wp2_with fail
   go_meet
   exact ⟨rfl,rfl⟩
  ·have e0 : ((fr : Int) == 0) = false:=by rw [beq_eq_false_iff_ne]; omega
   go_wp2_with fail
   go_meet
   exact ⟨congrArg Value.bool (decide_eq_false h0).symm,rfl⟩
 case rest =>
  obtain ⟨rfl,hwx⟩:=hcut
  obtain ⟨w4,rfl⟩:=qnm wc
  subst hwx
  go_step
  go_cut [] (fun wx => ∃ hv,LogIn wx w.heap.size l d s p g hv (.slice none 0 0) (openM fr id head next) /\ Below w.heap.size w wx /\ wx.heap[N]? = some (.cells #[.int .i64 s,.int .i64 p,.int .i64 g] TPlan (0,0)))
  case first =>
   by_cases h0 : fr = 0
   ·rw [decide_eq_true h0]
    have H0:=qh h0
    clear h0
    have HGN:=qh (genesis_any ia 16 ic id w4 (HX.out.2.2.1.below H3.out.2.1) (by omega))
    go_wp2_with fail
    refine HGN.out.mono ?_
    rintro e w5 ⟨⟨v5,rfl,ho5⟩,hb5⟩
    obtain ⟨a5,k5,rfl,_⟩:=ho5.bsn (n:=32) (sha_length _)
    obtain ⟨hL4,hbw4,hz4⟩:=H3.out
    have hL5:=hL4.below hb5
    have hz5:=(hb5.block N (ltH hz4)).trans hz4
    have hbw5 : Below w.heap.size w w5:=hbw4.trans (hb5.mono hbw4.size)
    have f5:=frz_of hL5.cel 5
    have f6:=frz_of hL5.cel 6
    have g5 : w5.cell? ⟨l,5,none⟩ = some (.slice a2 32 k2):=(log_cells hL5.cel).2.2.2.2.2.1
    have g6 : w5.cell? ⟨l,6,none⟩ = some (.int .u64 (next : Int)):=(log_cells hL5.cel).2.2.2.2.2.2.1
    have hll:=ltH hL5.cel
    have HF:=qh (show LogIn ((w5.setCell ⟨l,5,none⟩ (.slice a5 32 k5)).setCell ⟨l,6,none⟩ (.int .u64 1)) w.heap.size l d s p g (.slice a5 32 k5) (.slice none 0 0) (openM fr id head next) /\ Below w.heap.size w ((w5.setCell ⟨l,5,none⟩ (.slice a5 32 k5)).setCell ⟨l,6,none⟩ (.int .u64 1)) /\ ((w5.setCell ⟨l,5,none⟩ (.slice a5 32 k5)).setCell ⟨l,6,none⟩ (.int .u64 1)).heap[N]? = some (.cells #[.int .i64 s,.int .i64 p,.int .i64 g] TPlan (0,0)) from by
     have hc5:=(chg_set w5 l 5 (.slice a5 32 k5)).two (chg_set (w5.setCell ⟨l,5,none⟩ (.slice a5 32 k5)) l 6 (.int .u64 1))
     have hcel:=cells_set (k:=6) (y:=.int .u64 1) (cells_set (k:=5) (y:=.slice a5 32 k5) hL5.cel)
     refine ⟨⟨?_,?_,OwnR.nil _ _⟩,hbw5.trans (hc5.below hbw5.size (fun x _ e => by have:=HLL.out.1; omega)),(hc5.block N (ltH hz5) (fun e => HLL.out.2 e.symm)).trans hz5⟩
     ·unfold openM
      rw [if_pos H0.out,if_pos H0.out]
      exact hcel
     ·unfold openM
      rw [if_pos H0.out]
      exact own_log hL5.cel hc5 (ho5.base hbw4.size))
    clear ho5 hb5 hL4 hbw4 hz4 hL5 hz5 hbw5 HGN
    go_wp2_with fail
    go_meet
    exact ⟨_,HF.out⟩
   ·rw [decide_eq_false h0]
    go_wp2_with fail
    go_meet
    obtain ⟨h1,h2,h3⟩:=H3.out
    refine ⟨.slice a2 32 k2,?_,h2,h3⟩
    unfold openM
    rw [if_neg h0,if_neg h0]
    exact h1
  case rest =>
   obtain ⟨hv,hL,hbw,hz⟩:=hcut
   obtain ⟨w6,rfl⟩:=qnm wc
   obtain ⟨c0,c1,c2⟩:=pl_cells hz
   have cl : w6.cell? ⟨l,4,none⟩ = some (.int .i64 (fr : Int)):=(log_cells hL.cel).2.2.2.2.1
   have H6:=qh (aI hL (aI hbw hz))
   have hlN:=ltH hz
   have hll:=ltH hL.cel
   clear hL hbw hz H3
   go_wp2_with fail
   refine wp_loop_rounds 2 ?_
   rw [rounds_succ]
   go_upto_region 7 with fail
   refine heldB_start (fun i => [0,1,2,3,4,5,6].contains i) (fun w' => w'.cell? ⟨l,4,none⟩ = some (.int .i64 (fr : Int)) /\ w'.cell? ⟨N,0,none⟩ = some (.int .i64 s) /\ w'.cell? ⟨N,1,none⟩ = some (.int .i64 p) /\ w'.cell? ⟨N,2,none⟩ = some (.int .i64 g)) (by kernel_rfl) ?_ (fun hHeld => ?_)
   ·exact ⟨cl,c0,c1,c2⟩
   refine qtk 0 75 ?_
   simp only [qz0,qz1]
   refine qtk 1 76 ?_
   simp only [qz0,qz1]
   refine qtk 2 77 ?_
   simp only [qz0,qz1]
   refine qtk 3 78 ?_
   simp only [qz0,qz1]
   refine qtk 4 79 ?_
   simp only [qz0,qz1]
   refine qtk 5 80 ?_
   simp only [qz0,qz1]
   refine qtk 6 81 ?_
   simp only [qz0,qz1]
   refine qdon ?_
   clear hHeld
   clear cl c0 c1 c2
   by_cases hlt : (fr : Int) < g
   ·have HLT:=qh hlt
    go_upto_region 8 with fail
    obtain ⟨hL,hbw,hz⟩:=H6.out
    obtain ⟨hfi,hfn,hcat⟩:=HX.out.2.2.2.2.1 HLT.out
    have hbd6 : Below w6.heap.size w6 w6.drew.drew:=(Below.refl _ _).drew.drew
    have HPK:=qh (show ∀ W,Below w6.heap.size w6 W -> _ from fun W hb => place_any (HX.out.1.below (hbw.trans (hb.mono hbw.size))) s p g HX.out.2.1 fr first HLT.out hfi hfn)
    have HCT:=qh hcat
    have HC8:=qh (show ∀ W,Below w6.heap.size w6 W -> W.cell? ⟨l,4,none⟩ = some (.int .i64 (fr : Int)) /\ W.cell? ⟨N,0,none⟩ = some (.int .i64 s) /\ W.cell? ⟨N,1,none⟩ = some (.int .i64 p) /\ W.cell? ⟨N,2,none⟩ = some (.int .i64 g) from fun W hb =>
     ⟨(log_cells ((hb.block l hll).trans hL.cel)).2.2.2.2.1,pl_cells ((hb.block N hlN).trans hz)⟩)
    have HB8:=qh hbd6
    clear hL hbw hz hfi hfn hcat hbd6
    go_cut [18,19] (fun a b wx => a = .slice none 0 0 /\ b = .int .i64 14 /\ Below w6.heap.size w6 wx)
    case first =>
     refine heldB_start (fun i => [0,1,2,3,4,5,6,7,8,9,10,11,12,13,14,15].contains i) (fun w' => w'.cell? ⟨l,4,none⟩ = some (.int .i64 (fr : Int)) /\ w'.cell? ⟨N,0,none⟩ = some (.int .i64 s) /\ w'.cell? ⟨N,1,none⟩ = some (.int .i64 p) /\ w'.cell? ⟨N,2,none⟩ = some (.int .i64 g)) (by kernel_rfl) ?_ (fun hHeld => ?_)
     ·exact HC8.out _ HB8.out
     have HBT:=HB8
     obtain ⟨wd,hwd⟩:=qnm w6.drew.drew
     rw [<- hwd] at hHeld HBT ⊢
     clear hwd
     refine qtk 0 83 ?_
     simp only [qz0,qz1]
     refine qtk 1 84 ?_
     simp only [qz0,qz1]
     refine qtk 2 85 ?_
     simp only [qz0,qz1]
     refine qtk 3 86 ?_
     simp only [qz0,qz1]
     refine qtk 4 87 ?_
     simp only [qz0,qz1]
     refine qtk 5 88 ?_
     simp only [qz0,qz1]
     refine heldB_two 6 12 (by kernel_rfl) rfl rfl (fun K hK => ?_) (fun K hK => ?_)
     ·go_simp
      refine (HPK.out wd HBT.out).mono ?_
      rintro e wp ⟨vp,rfl,hop,hbp⟩
      rw [HCT.out] at hop
      obtain ⟨pa,pk,rfl,hBp⟩:=hop.bsn (n:=1024) (by simp)
      have HRD:=qh (fun W (hb : Below wp.heap.size wp W) => segread_none pa pk W (hBp.below hb))
      have hbt:=HBT.out.trans (hbp.mono HBT.out.size)
      clear HBT
      have HBT:=qh hbt
      have hHeld:=HC8.out _ HBT.out
      have HBP:=qh (Below.refl wp.heap.size wp)
      clear hop hbp hBp hbt
      go_wp2_with fail
      refine hK.out _ _ (fun _ => hHeld) ?_
      clear hK K
      refine heldB_two 7 12 (by kernel_rfl) rfl rfl (fun K hK => ?_) (fun K hK => ?_)
      ·go_simp
       refine (HRD.out wp (Below.refl _ _)).mono ?_
       rintro e wr ⟨rfl,hbr⟩
       have hbt:=HBT.out.trans (hbr.mono HBT.out.size)
       clear HBT
       have HBT:=qh hbt
       have hHeld:=HC8.out _ HBT.out
       unfold noHd
       clear hbr hbt
       go_wp2_with fail
       refine hK.out _ _ (fun _ => hHeld) ?_
       clear hK K
       refine qtk 8 82 ?_
       simp only [qz0,qz1]
       refine qtk 9 91 ?_
       simp only [qz0,qz1]
       refine qtk 10 92 ?_
       simp only [qz0,qz1]
       refine qtk 11 93 ?_
       simp only [qz0,qz1]
       refine qone 12 fun K hK => ?_
       go_simp
       obtain ⟨wa1,hwa1⟩:=qnm (wr.alloc (.cells #[.int .i64 0,.int .u64 0,.int .i64 0,.int .i64 0,.slice none 0 0,.slice none 0 0] THd))
       have hba1:=qba hwa1
       have hza1 : wa1.heap[wr.heap.size]? = some (.cells #[.int .i64 0,.int .u64 0,.int .i64 0,.int .i64 0,.slice none 0 0,.slice none 0 0] THd (0,0)):=by rw [hwa1]; exact heap_alloc_new wr _
       have hge1 : w6.heap.size <= wr.heap.size:=HBT.out.size
       have hbt1:=HBT.out.trans (hba1.mono HBT.out.size)
       clear HBT
       have HBT:=qh hbt1
       have hHeld:=HC8.out _ HBT.out
       rw [<- hwa1]
       skip
       clear hwa1 hbt1 hba1
       refine hK.out _ _ (fun _ => hHeld) ?_
       clear hK K
       refine qone 13 fun K hK => ?_
       have z0 : wa1.cell? ⟨wr.heap.size,0,none⟩ = some (.int .i64 0):=cells_at hza1 0
       have f0:=frz_of hza1 0
       have z1 : wa1.cell? ⟨wr.heap.size,1,none⟩ = some (.int .u64 0):=cells_at hza1 1
       have f1:=frz_of hza1 1
       have z2 : wa1.cell? ⟨wr.heap.size,2,none⟩ = some (.int .i64 0):=cells_at hza1 2
       have f2:=frz_of hza1 2
       have z3 : wa1.cell? ⟨wr.heap.size,3,none⟩ = some (.int .i64 0):=cells_at hza1 3
       have f3:=frz_of hza1 3
       have z4 : wa1.cell? ⟨wr.heap.size,4,none⟩ = some (.slice none 0 0):=cells_at hza1 4
       have f4:=frz_of hza1 4
       have z5 : wa1.cell? ⟨wr.heap.size,5,none⟩ = some (.slice none 0 0):=cells_at hza1 5
       have f5:=frz_of hza1 5
       have hzl:=ltH hza1
       go_simp
       have hc6:=chg6 wa1 wr.heap.size (.int .i64 0) (.int .u64 0) (.int .i64 0) (.int .i64 0) (.slice none 0 0) (.slice none 0 0)
       have hbt:=HBT.out.trans (hc6.below HBT.out.size (fun x hx e => by omega))
       clear HBT
       have HBT:=qh hbt
       have hHeld:=HC8.out _ HBT.out
       clear hbt hc6 hza1 z0 z1 z2 z3 z4 z5 f0 f1 f2 f3 f4 f5 hzl hge1
       refine hK.out _ _ (fun _ => hHeld) ?_
       clear hK K
       refine qtk 14 18 ?_
       simp only [qz0,qz1]
       refine qtk 15 19 ?_
       simp only [qz0,qz1]
       refine qdon ?_
       go_wp2_with fail
       go_meet
       exact ⟨rfl,rfl,HBT.out⟩
      ·go_simp
       obtain ⟨wa1,hwa1⟩:=qnm (wp.alloc (.cells #[.int .i64 0,.int .u64 0,.int .i64 0,.int .i64 0,.slice none 0 0,.slice none 0 0] THd))
       have hba1:=qba hwa1
       have hza1 : wa1.heap[wp.heap.size]? = some (.cells #[.int .i64 0,.int .u64 0,.int .i64 0,.int .i64 0,.slice none 0 0,.slice none 0 0] THd (0,0)):=by rw [hwa1]; exact heap_alloc_new wp _
       have hge1 : w6.heap.size <= wp.heap.size:=HBT.out.size
       have hbt1:=HBT.out.trans (hba1.mono HBT.out.size)
       clear HBT
       have HBT:=qh hbt1
       have hHeld:=HC8.out _ HBT.out
       rw [<- hwa1]
       have hbq:=qba hwa1
       clear hwa1 hbt1 hba1
       refine hK.out _ _ (fun _ => hHeld) ?_
       clear hK K
       refine qone 7 fun K hK => ?_
       go_simp
       refine (HRD.out wa1 hbq).mono ?_
       rintro e wr ⟨rfl,hbr⟩
       have hbt:=HBT.out.trans (hbr.mono HBT.out.size)
       have hza1:=(hbr.block _ (ltH hza1)).trans hza1
       clear HBT
       have HBT:=qh hbt
       have hHeld:=HC8.out _ HBT.out
       unfold noHd
       clear hbr hbt
       go_wp2_with fail
       refine hK.out _ _ (fun _ => hHeld) ?_
       clear hK K
       refine qtk 8 82 ?_
       simp only [qz0,qz1]
       refine qtk 9 91 ?_
       simp only [qz0,qz1]
       refine qtk 10 92 ?_
       simp only [qz0,qz1]
       refine qtk 11 93 ?_
       simp only [qz0,qz1]
       refine qone 13 fun K hK => ?_
       have z0 : wr.cell? ⟨wp.heap.size,0,none⟩ = some (.int .i64 0):=cells_at hza1 0
       have f0:=frz_of hza1 0
       have z1 : wr.cell? ⟨wp.heap.size,1,none⟩ = some (.int .u64 0):=cells_at hza1 1
       have f1:=frz_of hza1 1
       have z2 : wr.cell? ⟨wp.heap.size,2,none⟩ = some (.int .i64 0):=cells_at hza1 2
       have f2:=frz_of hza1 2
       have z3 : wr.cell? ⟨wp.heap.size,3,none⟩ = some (.int .i64 0):=cells_at hza1 3
       have f3:=frz_of hza1 3
       have z4 : wr.cell? ⟨wp.heap.size,4,none⟩ = some (.slice none 0 0):=cells_at hza1 4
       have f4:=frz_of hza1 4
       have z5 : wr.cell? ⟨wp.heap.size,5,none⟩ = some (.slice none 0 0):=cells_at hza1 5
       have f5:=frz_of hza1 5
       have hzl:=ltH hza1
       go_simp
       have hc6:=chg6 wr wp.heap.size (.int .i64 0) (.int .u64 0) (.int .i64 0) (.int .i64 0) (.slice none 0 0) (.slice none 0 0)
       have hbt:=HBT.out.trans (hc6.below HBT.out.size (fun x hx e => by omega))
       clear HBT
       have HBT:=qh hbt
       have hHeld:=HC8.out _ HBT.out
       clear hbt hc6 hza1 z0 z1 z2 z3 z4 z5 f0 f1 f2 f3 f4 f5 hzl hge1
       refine hK.out _ _ (fun _ => hHeld) ?_
       clear hK K
       refine qtk 14 18 ?_
       simp only [qz0,qz1]
       refine qtk 15 19 ?_
       simp only [qz0,qz1]
       refine qdon ?_
       go_wp2_with fail
       go_meet
       exact ⟨rfl,rfl,HBT.out⟩
     ·go_simp
      obtain ⟨wa1,hwa1⟩:=qnm (wd.alloc (.cells #[.int .i64 0,.int .u64 0,.int .i64 0,.int .i64 0,.slice none 0 0,.slice none 0 0] THd))
      have hba1:=qba hwa1
      have hza1 : wa1.heap[wd.heap.size]? = some (.cells #[.int .i64 0,.int .u64 0,.int .i64 0,.int .i64 0,.slice none 0 0,.slice none 0 0] THd (0,0)):=by rw [hwa1]; exact heap_alloc_new wd _
      have hge1 : w6.heap.size <= wd.heap.size:=HBT.out.size
      have hbt1:=HBT.out.trans (hba1.mono HBT.out.size)
      clear HBT
      have HBT:=qh hbt1
      have hHeld:=HC8.out _ HBT.out
      rw [<- hwa1]
      clear hwa1 hbt1 hba1
      refine hK.out _ _ (fun _ => hHeld) ?_
      clear hK K
      refine qone 6 fun K hK => ?_
      go_simp
      refine (HPK.out wa1 HBT.out).mono ?_
      rintro e wp ⟨vp,rfl,hop,hbp⟩
      rw [HCT.out] at hop
      obtain ⟨pa,pk,rfl,hBp⟩:=hop.bsn (n:=1024) (by simp)
      have HRD:=qh (fun W (hb : Below wp.heap.size wp W) => segread_none pa pk W (hBp.below hb))
      have hbt:=HBT.out.trans (hbp.mono HBT.out.size)
      have hza1:=(hbp.block _ (ltH hza1)).trans hza1
      clear HBT
      have HBT:=qh hbt
      have hHeld:=HC8.out _ HBT.out
      have HBP:=qh (Below.refl wp.heap.size wp)
      clear hop hbp hBp hbt
      go_wp2_with fail
      refine hK.out _ _ (fun _ => hHeld) ?_
      clear hK K
      refine qone 7 fun K hK => ?_
      go_simp
      refine (HRD.out wp (Below.refl _ _)).mono ?_
      rintro e wr ⟨rfl,hbr⟩
      have hbt:=HBT.out.trans (hbr.mono HBT.out.size)
      have hza1:=(hbr.block _ (ltH hza1)).trans hza1
      clear HBT
      have HBT:=qh hbt
      have hHeld:=HC8.out _ HBT.out
      unfold noHd
      clear hbr hbt
      go_wp2_with fail
      refine hK.out _ _ (fun _ => hHeld) ?_
      clear hK K
      refine qtk 8 82 ?_
      simp only [qz0,qz1]
      refine qtk 9 91 ?_
      simp only [qz0,qz1]
      refine qtk 10 92 ?_
      simp only [qz0,qz1]
      refine qtk 11 93 ?_
      simp only [qz0,qz1]
      refine qone 13 fun K hK => ?_
      have z0 : wr.cell? ⟨wd.heap.size,0,none⟩ = some (.int .i64 0):=cells_at hza1 0
      have f0:=frz_of hza1 0
      have z1 : wr.cell? ⟨wd.heap.size,1,none⟩ = some (.int .u64 0):=cells_at hza1 1
      have f1:=frz_of hza1 1
      have z2 : wr.cell? ⟨wd.heap.size,2,none⟩ = some (.int .i64 0):=cells_at hza1 2
      have f2:=frz_of hza1 2
      have z3 : wr.cell? ⟨wd.heap.size,3,none⟩ = some (.int .i64 0):=cells_at hza1 3
      have f3:=frz_of hza1 3
      have z4 : wr.cell? ⟨wd.heap.size,4,none⟩ = some (.slice none 0 0):=cells_at hza1 4
      have f4:=frz_of hza1 4
      have z5 : wr.cell? ⟨wd.heap.size,5,none⟩ = some (.slice none 0 0):=cells_at hza1 5
      have f5:=frz_of hza1 5
      have hzl:=ltH hza1
      go_simp
      have hc6:=chg6 wr wd.heap.size (.int .i64 0) (.int .u64 0) (.int .i64 0) (.int .i64 0) (.slice none 0 0) (.slice none 0 0)
      have hbt:=HBT.out.trans (hc6.below HBT.out.size (fun x hx e => by omega))
      clear HBT
      have HBT:=qh hbt
      have hHeld:=HC8.out _ HBT.out
      clear hbt hc6 hza1 z0 z1 z2 z3 z4 z5 f0 f1 f2 f3 f4 f5 hzl hge1
      refine hK.out _ _ (fun _ => hHeld) ?_
      clear hK K
      refine qtk 14 18 ?_
      simp only [qz0,qz1]
      refine qtk 15 19 ?_
      simp only [qz0,qz1]
      refine qdon ?_
      go_wp2_with fail
      go_meet
      exact ⟨rfl,rfl,HBT.out⟩
    case rest =>
     obtain ⟨rfl,rfl,hbx⟩:=hcut
     obtain ⟨w7,rfl⟩:=qnm wc
     have HBX:=qh hbx
     clear hbx
     go_upto_region 9 with fail
     refine heldB_start (fun i => [0,1,2,3,4,5,6,7,8,9,10,11,12,13,14,15,16,17,18,19,20,21,22,23,24,25,26,27,28,29].contains i) (fun _ => True) (by kernel_rfl) ?_ (fun hHeld => ?_)
     ·trivial
     refine qtk 0 94 ?_
     simp only [qz0,qz1]
     refine qtk 1 95 ?_
     simp only [qz0,qz1]
     refine qtk 2 96 ?_
     simp only [qz0,qz1]
     refine heldB_take (i:=3) (v:=undef) 97 rfl (by kernel_rfl) (by kernel_rfl) (by kernel_rfl) (by kernel_rfl) (fun _ _ _ h => h) rfl (by assumption) (Or.inr ⟨by rfl,rfl⟩) ?_
     simp only [List.set_cons_zero,List.set_cons_succ]
     refine heldB_take (i:=4) (v:=undef) 98 rfl (by kernel_rfl) (by kernel_rfl) (by kernel_rfl) (by kernel_rfl) (fun _ _ _ h => h) rfl (by assumption) (Or.inr ⟨by rfl,rfl⟩) ?_
     simp only [List.set_cons_zero,List.set_cons_succ]
     refine heldB_take (i:=5) (v:=undef) 99 rfl (by kernel_rfl) (by kernel_rfl) (by kernel_rfl) (by kernel_rfl) (fun _ _ _ h => h) rfl (by assumption) (Or.inr ⟨by rfl,rfl⟩) ?_
     simp only [List.set_cons_zero,List.set_cons_succ]
     refine heldB_take (i:=6) (v:=undef) 100 rfl (by kernel_rfl) (by kernel_rfl) (by kernel_rfl) (by kernel_rfl) (fun _ _ _ h => h) rfl (by assumption) (Or.inr ⟨by rfl,rfl⟩) ?_
     simp only [List.set_cons_zero,List.set_cons_succ]
     refine heldB_take (i:=7) (v:=undef) 101 rfl (by kernel_rfl) (by kernel_rfl) (by kernel_rfl) (by kernel_rfl) (fun _ _ _ h => h) rfl (by assumption) (Or.inr ⟨by rfl,rfl⟩) ?_
     simp only [List.set_cons_zero,List.set_cons_succ]
     refine heldB_take (i:=8) (v:=undef) 102 rfl (by kernel_rfl) (by kernel_rfl) (by kernel_rfl) (by kernel_rfl) (fun _ _ _ h => h) rfl (by assumption) (Or.inr ⟨by rfl,rfl⟩) ?_
     simp only [List.set_cons_zero,List.set_cons_succ]
     refine heldB_take (i:=9) (v:=undef) 103 rfl (by kernel_rfl) (by kernel_rfl) (by kernel_rfl) (by kernel_rfl) (fun _ _ _ h => h) rfl (by assumption) (Or.inr ⟨by rfl,rfl⟩) ?_
     simp only [List.set_cons_zero,List.set_cons_succ]
     refine qtk 10 104 ?_
     simp only [qz0,qz1]
     refine qtk 11 105 ?_
     simp only [qz0,qz1]
     refine heldB_take (i:=12) (v:=undef) 106 rfl (by kernel_rfl) (by kernel_rfl) (by kernel_rfl) (by kernel_rfl) (fun _ _ _ h => h) rfl (by assumption) (Or.inr ⟨by rfl,rfl⟩) ?_
     simp only [List.set_cons_zero,List.set_cons_succ]
     refine heldB_take (i:=13) (v:=undef) 107 rfl (by kernel_rfl) (by kernel_rfl) (by kernel_rfl) (by kernel_rfl) (fun _ _ _ h => h) rfl (by assumption) (Or.inr ⟨by rfl,rfl⟩) ?_
     simp only [List.set_cons_zero,List.set_cons_succ]
     refine heldB_take (i:=14) (v:=undef) 108 rfl (by kernel_rfl) (by kernel_rfl) (by kernel_rfl) (by kernel_rfl) (fun _ _ _ h => h) rfl (by assumption) (Or.inr ⟨by rfl,rfl⟩) ?_
     simp only [List.set_cons_zero,List.set_cons_succ]
     refine heldB_take (i:=15) (v:=undef) 109 rfl (by kernel_rfl) (by kernel_rfl) (by kernel_rfl) (by kernel_rfl) (fun _ _ _ h => h) rfl (by assumption) (Or.inr ⟨by rfl,rfl⟩) ?_
     simp only [List.set_cons_zero,List.set_cons_succ]
     refine heldB_take (i:=16) (v:=undef) 110 rfl (by kernel_rfl) (by kernel_rfl) (by kernel_rfl) (by kernel_rfl) (fun _ _ _ h => h) rfl (by assumption) (Or.inr ⟨by rfl,rfl⟩) ?_
     simp only [List.set_cons_zero,List.set_cons_succ]
     refine heldB_take (i:=17) (v:=undef) 111 rfl (by kernel_rfl) (by kernel_rfl) (by kernel_rfl) (by kernel_rfl) (fun _ _ _ h => h) rfl (by assumption) (Or.inr ⟨by rfl,rfl⟩) ?_
     simp only [List.set_cons_zero,List.set_cons_succ]
     refine heldB_take (i:=18) (v:=undef) 112 rfl (by kernel_rfl) (by kernel_rfl) (by kernel_rfl) (by kernel_rfl) (fun _ _ _ h => h) rfl (by assumption) (Or.inr ⟨by rfl,rfl⟩) ?_
     simp only [List.set_cons_zero,List.set_cons_succ]
     refine qtk 19 113 ?_
     simp only [qz0,qz1]
     refine qtk 20 114 ?_
     simp only [qz0,qz1]
     refine heldB_take (i:=21) (v:=undef) 115 rfl (by kernel_rfl) (by kernel_rfl) (by kernel_rfl) (by kernel_rfl) (fun _ _ _ h => h) rfl (by assumption) (Or.inr ⟨by rfl,rfl⟩) ?_
     simp only [List.set_cons_zero,List.set_cons_succ]
     refine heldB_take (i:=22) (v:=undef) 116 rfl (by kernel_rfl) (by kernel_rfl) (by kernel_rfl) (by kernel_rfl) (fun _ _ _ h => h) rfl (by assumption) (Or.inr ⟨by rfl,rfl⟩) ?_
     simp only [List.set_cons_zero,List.set_cons_succ]
     refine heldB_take (i:=23) (v:=undef) 117 rfl (by kernel_rfl) (by kernel_rfl) (by kernel_rfl) (by kernel_rfl) (fun _ _ _ h => h) rfl (by assumption) (Or.inr ⟨by rfl,rfl⟩) ?_
     simp only [List.set_cons_zero,List.set_cons_succ]
     refine heldB_take (i:=24) (v:=undef) 118 rfl (by kernel_rfl) (by kernel_rfl) (by kernel_rfl) (by kernel_rfl) (fun _ _ _ h => h) rfl (by assumption) (Or.inr ⟨by rfl,rfl⟩) ?_
     simp only [List.set_cons_zero,List.set_cons_succ]
     refine heldB_take (i:=25) (v:=undef) 119 rfl (by kernel_rfl) (by kernel_rfl) (by kernel_rfl) (by kernel_rfl) (fun _ _ _ h => h) rfl (by assumption) (Or.inr ⟨by rfl,rfl⟩) ?_
     simp only [List.set_cons_zero,List.set_cons_succ]
     refine heldB_take (i:=26) (v:=undef) 120 rfl (by kernel_rfl) (by kernel_rfl) (by kernel_rfl) (by kernel_rfl) (fun _ _ _ h => h) rfl (by assumption) (Or.inr ⟨by rfl,rfl⟩) ?_
     simp only [List.set_cons_zero,List.set_cons_succ]
     refine heldB_take (i:=27) (v:=undef) 121 rfl (by kernel_rfl) (by kernel_rfl) (by kernel_rfl) (by kernel_rfl) (fun _ _ _ h => h) rfl (by assumption) (Or.inr ⟨by rfl,rfl⟩) ?_
     simp only [List.set_cons_zero,List.set_cons_succ]
     refine heldB_take (i:=28) (v:=undef) 122 rfl (by kernel_rfl) (by kernel_rfl) (by kernel_rfl) (by kernel_rfl) (fun _ _ _ h => h) rfl (by assumption) (Or.inr ⟨by rfl,rfl⟩) ?_
     simp only [List.set_cons_zero,List.set_cons_succ]
     refine qtk 29 123 ?_
     simp only [qz0,qz1]
     refine qdon ?_
     clear hHeld
     go_wp2_with fail
     go_ret3
     obtain ⟨hL,hbw,_⟩:=H6.out
     exact ⟨l,rfl,HLL.out.1,⟨hv,(hL.below HBX.out).below (Below.refl _ _).drew⟩,(hbw.trans (HBX.out.mono hbw.size)).drew⟩
   ·go_wp2_with fail
    go_ret3
    obtain ⟨hL,hbw,_⟩:=H6.out
    exact ⟨l,rfl,HLL.out.1,⟨hv,hL.below (Below.refl _ _).drew⟩,hbw.drew⟩
abbrev TMark : TypeId:=91
theorem ptB_length (p : Nat) (m : Mk) (hh : m.head.length = 32) (hs : m.state.length + 94 <= 128 * p) : (ptBytes p m).length = 128 * p:=by
 unfold ptBytes
 rw [ptImg_length _ _ _ _ _ _ _ _ hh (sha_length _),List.length_append,List.length_replicate]
 omega
def ptFirst (p gen : Nat) : Nat:=1 + (gen % 2) * p
theorem mk_cells {w : World} {b G Q : Nat} {sg : Int} {v1 v2 : Value} {ty : TypeId} (h : w.heap[b]? = some (.cells #[.int .u64 (G : Int),.int .u64 (Q : Int),.int .i64 sg,v1,v2] ty (0,0))) :
  w.cell? ⟨b,0,none⟩ = some (.int .u64 (G : Int)) /\ w.cell? ⟨b,1,none⟩ = some (.int .u64 (Q : Int)) /\ w.cell? ⟨b,2,none⟩ = some (.int .i64 sg) /\ w.cell? ⟨b,3,none⟩ = some v1 /\ w.cell? ⟨b,4,none⟩ = some v2 :=
 ⟨cells_at h 0,cells_at h 1,cells_at h 2,cells_at h 3,cells_at h 4⟩
theorem msave_ok {w : World} {d sb mb n : Nat} {S : List UInt8} {M : Nat -> Option (List UInt8)} (hD : Dk w d sb mb n S M) (s g : Int) (pn : Nat) (hp : isPlan s pn g) (m : Mk) (ah al : Option Addr) (ch lt ct : Nat) (hH : Bs w ah 32 ch m.head) (hT : Bs w al lt ct m.state) (hr : m.right g) (hl : lt + 94 <= 128 * pn) (hn : 1 + 2 * pn <= n) :
  Calls Tryz.prog 33 #[.pointer (some ⟨d,0,none⟩),.agg #[.int .i64 s,.int .i64 (pn : Int),.int .i64 g],.agg #[.int .u64 (m.gen : Int),.int .u64 (m.seq : Int),.int .i64 m.seg,.slice ah 32 ch,.slice al lt ct]] w fun e w' =>
   e = .returned (.int .i64 0) /\ Dk w' d sb mb n S (layM M (ptFirst pn m.gen) (ptBytes pn m) pn) /\ Chg (fun k => k = d ∨ k = mb) w w':=by
 have hstl:=hT.1
 have hpl : (ptBytes pn m).length = 128 * pn:=ptB_length pn m hH.1 (by omega)
 obtain ⟨w0,hw0⟩:=qnm ((w.alloc (.cells #[.int .i64 s,.int .i64 (pn : Int),.int .i64 g] TPlan)).alloc (.cells #[.int .u64 (m.gen : Int),.int .u64 (m.seq : Int),.int .i64 m.seg,.slice ah 32 ch,.slice al lt ct] TMark))
 have hb0 : Below w.heap.size w w0:=by rw [hw0]; exact (((Ext.refl w).alloc _).alloc _).1
 have hzp : w0.heap[w.heap.size]? = some (.cells #[.int .i64 s,.int .i64 (pn : Int),.int .i64 g] TPlan (0,0)):=by rw [hw0]; exact (Below.heap_alloc _ _ _ (by simp)).trans (heap_alloc_new w _)
 have hzm : w0.heap[w.heap.size + 1]? = some (.cells #[.int .u64 (m.gen : Int),.int .u64 (m.seq : Int),.int .i64 m.seg,.slice ah 32 ch,.slice al lt ct] TMark (0,0)):=by
  rw [hw0]
  have:=heap_alloc_new (w.alloc (.cells #[.int .i64 s,.int .i64 (pn : Int),.int .i64 g] TPlan)) (.cells #[.int .u64 (m.gen : Int),.int .u64 (m.seq : Int),.int .i64 m.seg,.slice ah 32 ch,.slice al lt ct] TMark)
  rwa [World.size_alloc] at this
 obtain ⟨N,hN⟩:=qnm w.heap.size
 rw [<- hN] at hzp hzm
 have HEN:=qh (penc_ok s pn g m ah al 32 ch lt ct w0 hp (hH.below hb0) (hT.below hb0) hr (by omega))
 have HPT:=qh (fun W => point_ok s pn g ((m.gen % 2 : Nat) : Int) W hp (by omega) (by omega))
 have HX:=qh (aI hD (aI hb0 (aI hw0 (aI hN (aI hn hpl)))))
 have HZ:=qh (aI hzp hzm)
 obtain ⟨p0,p1,p2⟩:=pl_cells hzp
 obtain ⟨m0,m1,m2,m3,m4⟩:=mk_cells hzm
 obtain ⟨G,hG⟩:=qnm m.gen
 obtain ⟨k,hk⟩:=qnm (m.gen % 2)
 rw [<- hG] at m0 HEN
 rw [<- hk] at HPT
 have HK:=qh (aI hG hk)
 have e1 : ((G : Int).tmod 2) = (k : Int):=by rw [Int.tmod_eq_emod_of_nonneg (by omega)]; omega
 have e2 : IntKind.i64.wrap (k : Int) = (k : Int):=IntWalk.i64_in _ (by omega)
 have e3 : IntKind.u64.wrap (k : Int) = (k : Int):=IntWalk.u64_in _ (by omega)
 clear hD hH hT hr hl hn hstl hpl hw0 hb0 hzp hzm hN hG hk
 go_enter Tryz.func33,Tryz.ntmps33
 go_upto_region 1 with fail
 rw [<- HX.out.2.2.1]
 rw [<- HX.out.2.2.2.1]
 go_wp2_with fail
 refine HEN.out.mono ?_
 rintro e w1 ⟨v1,rfl,ho1,hb1⟩
 obtain ⟨a1,c1,rfl,hB1⟩:=ho1.bsn (n:=128 * pn) (by have:=HX.out.2.2.2.2.2; simpa using this)
 obtain ⟨hzp,hzm⟩:=HZ.out
 obtain ⟨p0,p1,p2⟩:=pl_cells ((hb1.block N (ltH hzp)).trans hzp)
 obtain ⟨m0,m1,m2,m3,m4⟩:=mk_cells ((hb1.block (N + 1) (ltH hzm)).trans hzm)
 rw [<- HK.out.1] at m0
 have H1:=qh (aI ho1 hb1)
 clear ho1 hb1 hzp hzm HEN
 go_wp2_with fail
 refine (HPT.out w1).mono ?_
 rintro e w2 ⟨rfl,hb2⟩
 obtain ⟨ho1,hb1⟩:=H1.out
 have hD2:=HX.out.1.below (HX.out.2.1.trans ((hb1.trans (hb2.mono hb1.size)).mono HX.out.2.1.size))
 have hfst : (1 + (k : Int) * (pn : Int)) = ((ptFirst pn m.gen : Nat) : Int):=by unfold ptFirst; rw [<- HK.out.2]; push_cast; rfl
 have hk2 : k = 0 ∨ k = 1:=by have:=HK.out.2; omega
 have hf2 : ptFirst pn m.gen + pn <= n:=by
  have:=HX.out.2.2.2.2.1
  unfold ptFirst
  rw [<- HK.out.2]
  rcases hk2 with rfl | rfl <;> omega
 rw [hfst]
 have hLY:=lay_any hD2 (ptFirst pn m.gen) pn a1 c1 _ (by simpa using hB1.below hb2) hf2 (fun ad had => by
  subst had
  have h1:=ho1.ge ad.block rfl
  have h2:=HX.out.1.lt
  have h3:=HX.out.2.1.size
  omega)
 have HLY:=qh hLY
 have HB:=qh (show Below w.heap.size w w2 from HX.out.2.1.trans ((hb1.trans (hb2.mono hb1.size)).mono HX.out.2.1.size))
 clear ho1 hb1 hb2 hD2 hfst hk2 hf2 hLY hB1
 go_wp2_with fail
 refine HLY.out.mono ?_
 rintro e w3 ⟨rfl,hD3,hc3⟩
 have HF:=qh (aI hD3 ((Chg.of_below HB.out (fun k => k = d ∨ k = mb)).two hc3))
 clear hD3 hc3
 go_wp2_with fail
 go_ret
 exact ⟨rfl,HF.out⟩
end
end Go.Proofs.YtabdcphioccgnaaGreatDoor
