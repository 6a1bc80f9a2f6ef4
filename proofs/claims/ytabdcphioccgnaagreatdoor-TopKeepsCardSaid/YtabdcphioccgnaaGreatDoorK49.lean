/- RefVault; RefVNew; TBegin; TAwake. -/
import Derived.Test.YtabdcphioccgnaaGreatDoorK47
import Derived.Test.YtabdcphioccgnaaGreatDoorK48
set_option maxRecDepth 100000
set_option maxHeartbeats 8000000
namespace Go.Proofs.YtabdcphioccgnaaGreatDoor
section
open Go.RowKit
abbrev TRSnaps : TypeId:=273
abbrev TROne : TypeId:=404
abbrev TROnes : TypeId:=271
abbrev TRState : TypeId:=184
theorem rcommitted_any {w : World} {t a g : Nat} (h : RT0 w t a g) : Calls Tryz.prog 107 #[.pointer (some ⟨t,0,none⟩)] w fun e w' => (∃ c,e = .returned (.pointer (some ⟨c,0,none⟩))) /\ Below w.heap.size w w':=by
 have HC:=qh (rtcopy_any h)
 have H:=qh h
 clear h
 go_enter Tryz.func107,Tryz.ntmps107
 go_wp2_with fail
 refine HC.out.mono ?_
 rintro e w1 ⟨⟨c,rfl⟩,hb1⟩
 have h1:=H.out.below hb1
 have t0 : w1.cell? ⟨t,0,none⟩ = some (.slice (some ⟨a,0,none⟩) 1 1):=cells_at h1.1 0
 have n5 : w1.cell? ⟨a,5,none⟩ = some (.bool true):=cells_at h1.2.1 5
 have HB:=qh hb1
 clear HC h1 hb1
 go_wp2_with fail
 refine wp_loop_rounds 3 ?_
 rw [rounds_succ]
 go_wp2_with fail
 rw [rounds_succ]
 go_wp2_with fail
 go_ret
 exact ⟨⟨c,rfl⟩,HB.out⟩
def RSn0 (w : World) (s : Nat) : Prop:=w.heap[s]? = some (.cells #[.int .i64 1,.slice none 0 0,.slice none 0 0] TRSnaps (0,0))
theorem RSn0.below {w w' : World} {s : Nat} (h : RSn0 w s) (hb : Below w.heap.size w w') : RSn0 w' s:=(hb.block s (ltH h)).trans h
theorem rsnew_any (w : World) : Calls Tryz.prog 106 #[] w fun e w' => (∃ s,e = .returned (.pointer (some ⟨s,0,none⟩)) /\ RSn0 w' s) /\ Below w.heap.size w w':=by
 go_enter Tryz.func106,Tryz.ntmps106
 go_wp2_with fail
 go_ret
 exact ⟨⟨_,rfl,heap_alloc_new w _⟩,(Below.refl _ _).alloc (Nat.le_refl _) _⟩
theorem infoOneR : (Tryz.prog.info? TROne).map (fun i => (i.zero,i.size,i.bytes)) = some (some (.agg #[.int .i64 0,.slice none 0 0,.pointer none]),3,40):=by kernel_rfl
theorem app_one0 {W : World} {g : Nat} (hz : W.heap[g]? = some (.cells #[] TROne (0,0))) : (Builtin.append_ #[TROnes,TROnes] TROnes #[.slice (some ⟨g,0,none⟩) 0 0,.slice none 0 0]).run Tryz.prog W = .ok (.slice (some ⟨g,0,none⟩) 0 0) W:=by
 obtain ⟨i,hi,_⟩:=info_any infoOneR
 exact run_append_none0 (P:=Tryz.prog) (w:=W) 0 TROnes TROnes TROne i 3 Tryz.underlying271 hi _ 0 0 [] (own_zero hz)
theorem rscopy_any {w : World} {s : Nat} (h : RSn0 w s) : Calls Tryz.prog 108 #[.pointer (some ⟨s,0,none⟩)] w fun e w' => (∃ c,e = .returned (.pointer (some ⟨c,0,none⟩))) /\ Below w.heap.size w w':=by
 obtain ⟨wd,hwd⟩:=qnm w.drew
 have hb : Below w.heap.size w wd:=by rw [hwd]; exact (Below.refl _ _).drew
 have HI0:=qh (show RNI wd wd [] from ⟨Below.refl _ _,fun p hp => by simp at hp⟩)
 have HT:=qh (show ∀ W,Below wd.heap.size wd W -> W.cell? ⟨s,0,none⟩ = some (.int .i64 1) /\ W.cell? ⟨s,1,none⟩ = some (.slice none 0 0) /\ W.cell? ⟨s,2,none⟩ = some (.slice none 0 0) from fun W hW => have hz:=(h.below hb).below hW; ⟨cells_at hz 0,cells_at hz 1,cells_at hz 2⟩)
 have HB:=qh hb
 clear h hb
 go_enter Tryz.func108,Tryz.ntmps108
 go_upto_region 1 with fail
 refine heldB_start (fun i => List.contains (List.range 16) i) (fun W => W.cell? ⟨s,0,none⟩ = some (.int .i64 1) /\ W.cell? ⟨s,1,none⟩ = some (.slice none 0 0) /\ W.cell? ⟨s,2,none⟩ = some (.slice none 0 0)) (by kernel_rfl) ?_ (fun hHeld => ?_)
 ·rw [<- hwd]; exact HT.out _ (Below.refl _ _)
 rw [<- hwd] at hHeld ⊢
 clear hwd
 refine qtk 0 3 ?_
 simp only [qz0,qz1]
 refine qtk 1 4 ?_
 simp only [qz0,qz1]
 refine qtk 2 5 ?_
 simp only [qz0,qz1]
 refine qtk 3 6 ?_
 simp only [qz0,qz1]
 refine qtk 4 7 ?_
 simp only [qz0,qz1]
 refine qtk 5 8 ?_
 simp only [qz0,qz1]
 refine qtk 6 9 ?_
 simp only [qz0,qz1]
 refine qtk 7 10 ?_
 simp only [qz0,qz1]
 refine qtk 9 12 ?_
 simp only [qz0,qz1]
 refine qtk 10 13 ?_
 simp only [qz0,qz1]
 refine qtk 11 14 ?_
 simp only [qz0,qz1]
 refine qtk 12 15 ?_
 simp only [qz0,qz1]
 refine qone 8 fun K hK => ?_
 go_simp
 obtain ⟨v1,hw⟩:=qnm (wd.alloc (.cells #[] TROne))
 obtain ⟨g1,hg⟩:=qnm wd.heap.size
 have HI1:=qh (HI0.out.new TROne hw hg)
 have hHeld:=HT.out v1 HI1.out.bel
 rw [<- hw,<- hg]
 clear hw hg
 refine hK.out _ _ (fun _ => hHeld) ?_
 clear hK K
 refine qone 13 fun K hK => ?_
 have hr:=app_one0 (W:=v1) (HI1.out.pl (g1,TROne) (by simp)).2
 refine step_append_run (by rfl) _ _ TROnes rfl _ _ _ (by rfl) (by rfl) hr ?_
 clear hr
 go_wp2_with fail
 refine hK.out _ _ (fun _ => hHeld) ?_
 clear hK K
 refine qtk 14 17 ?_
 simp only [qz0,qz1]
 refine qone 15 fun K hK => ?_
 go_simp
 have hHeld:=HT.out _ (HI1.out.bel.alloc HI1.out.bel.size (.cells #[.int .i64 1,.slice none 0 0,.slice (some ⟨g1,0,none⟩) 0 0] TRSnaps))
 refine hK.out _ _ (fun _ => hHeld) ?_
 clear hK K
 refine qfr 16 2 ?_
 simp only [qz0,qz1]
 refine qdon ?_
 go_wp2_with fail
 go_ret
 exact ⟨⟨_,rfl⟩,HB.out.trans ((HI1.out.bel.alloc HI1.out.bel.size _).mono HB.out.size)⟩
def RS0 (w : World) (s : Nat) : Prop:=∃ t a g sn,(∃ C,w.heap[s]? = some (.cells C TRState (0,0)) /\ C[0]? = some (.pointer (some ⟨t,0,none⟩)) /\ C[1]? = some (.pointer (some ⟨sn,0,none⟩)) /\ C[2]? = some (.int .u64 0)) /\ RT0 w t a g /\ RSn0 w sn
theorem RS0.below {w w' : World} {s : Nat} (h : RS0 w s) (hb : Below w.heap.size w w') : RS0 w' s:=by
 obtain ⟨t,a,g,sn,⟨C,h1,h2⟩,h3,h4⟩:=h
 exact ⟨t,a,g,sn,⟨C,(hb.block s (ltH h1)).trans h1,h2⟩,h3.below hb,h4.below hb⟩
theorem rstnew_any (w : World) : Calls Tryz.prog 38 #[] w fun e w' => (∃ s,e = .returned (.pointer (some ⟨s,0,none⟩)) /\ RS0 w' s) /\ Below w.heap.size w w':=by
 have H1:=qh (rtnew_any w)
 go_enter Tryz.func38,Tryz.ntmps38
 go_wp2_with fail
 refine H1.out.mono ?_
 rintro e w1 ⟨⟨t,a,g,rfl,hT⟩,hb1⟩
 have H2:=qh (rsnew_any w1)
 have HA:=qh (aI hT hb1)
 clear hT hb1
 go_wp2_with fail
 refine H2.out.mono ?_
 rintro e w2 ⟨⟨sn,rfl,hS⟩,hb2⟩
 have HF:=qh (aI (HA.out.1.below hb2) (aI hS (HA.out.2.trans (hb2.mono HA.out.2.size))))
 clear hS hb2
 go_wp2_with fail
 go_ret
 obtain ⟨hT,hS,hb⟩:=HF.out
 have hba:=fun o => (Below.refl w2.heap.size w2).alloc (Nat.le_refl _) o
 exact ⟨⟨_,rfl,t,a,g,sn,⟨_,heap_alloc_new w2 _,rfl,rfl,rfl⟩,hT.below (hba _),hS.below (hba _)⟩,hb.alloc hb.size _⟩
theorem rsettled_any {w : World} {s : Nat} (h : RS0 w s) : Calls Tryz.prog 39 #[.pointer (some ⟨s,0,none⟩)] w fun e w' => (∃ c,e = .returned (.pointer (some ⟨c,0,none⟩))) /\ Below w.heap.size w w':=by
 obtain ⟨t,a,g,sn,⟨C,h1,h2,h3,h4⟩,hT,hS⟩:=h
 obtain ⟨wd,hwd⟩:=qnm w.drew
 have hb : Below w.heap.size w wd:=by rw [hwd]; exact (Below.refl _ _).drew
 have HT:=qh (show ∀ W,Below wd.heap.size wd W -> W.cell? ⟨s,0,none⟩ = some (.pointer (some ⟨t,0,none⟩)) /\ W.cell? ⟨s,1,none⟩ = some (.pointer (some ⟨sn,0,none⟩)) /\ W.cell? ⟨s,2,none⟩ = some (.int .u64 0) from fun W hW => have hbb:=hb.trans (hW.mono hb.size); have hz:=(hbb.block s (ltH h1)).trans h1; ⟨(cells_at hz 0).trans h2,(cells_at hz 1).trans h3,(cells_at hz 2).trans h4⟩)
 have HB:=qh (aI hb (aI (hT.below hb) (hS.below hb)))
 have HC:=qh (rcommitted_any (hT.below hb))
 clear h1 h2 h3 h4 hT hS hb
 go_enter Tryz.func39,Tryz.ntmps39
 go_upto_region 1 with fail
 refine heldB_start (fun i => List.contains (List.range 16) i) (fun W => W.cell? ⟨s,0,none⟩ = some (.pointer (some ⟨t,0,none⟩)) /\ W.cell? ⟨s,1,none⟩ = some (.pointer (some ⟨sn,0,none⟩)) /\ W.cell? ⟨s,2,none⟩ = some (.int .u64 0)) (by kernel_rfl) ?_ (fun hHeld => ?_)
 ·rw [<- hwd]; exact HT.out _ (Below.refl _ _)
 rw [<- hwd] at hHeld ⊢
 clear hwd
 refine qtk 0 3 ?_
 simp only [qz0,qz1]
 refine qtk 1 4 ?_
 simp only [qz0,qz1]
 refine qtk 2 5 ?_
 simp only [qz0,qz1]
 refine qtk 3 6 ?_
 simp only [qz0,qz1]
 refine qtk 5 8 ?_
 simp only [qz0,qz1]
 refine qtk 6 9 ?_
 simp only [qz0,qz1]
 refine qtk 7 10 ?_
 simp only [qz0,qz1]
 refine qtk 8 11 ?_
 simp only [qz0,qz1]
 refine qtk 10 13 ?_
 simp only [qz0,qz1]
 refine qtk 11 14 ?_
 simp only [qz0,qz1]
 refine qtk 12 15 ?_
 simp only [qz0,qz1]
 refine qtk 13 16 ?_
 simp only [qz0,qz1]
 refine qone 4 fun K hK => ?_
 go_simp
 refine HC.out.mono ?_
 rintro e v1 ⟨⟨t1,rfl⟩,hb1⟩
 have hHeld:=HT.out v1 hb1
 have HB1:=qh hb1
 have HS1:=qh (rscopy_any (HB.out.2.2.below hb1))
 clear hb1 HC
 go_wp2_with fail
 refine hK.out _ _ (fun _ => hHeld) ?_
 clear hK K
 refine qone 9 fun K hK => ?_
 go_simp
 refine HS1.out.mono ?_
 rintro e v2 ⟨⟨s1,rfl⟩,hb2⟩
 have HB2:=qh (HB1.out.trans (hb2.mono HB1.out.size))
 have hHeld:=HT.out v2 HB2.out
 clear hb2 HS1
 go_wp2_with fail
 refine hK.out _ _ (fun _ => hHeld) ?_
 clear hK K
 refine qtk 14 17 ?_
 simp only [qz0,qz1]
 refine qone 15 fun K hK => ?_
 go_simp
 have hHeld:=HT.out _ (HB2.out.alloc HB2.out.size (.cells #[.pointer (some ⟨t1,0,none⟩),.pointer (some ⟨s1,0,none⟩),.int .u64 0,.int .i64 0,.int .i64 0,.slice none 0 0,.int .i64 0,.int .i64 0,.slice none 0 0,.int .i64 0,.int .i64 0,.slice none 0 0,.int .i64 0,.int .i64 0,.slice none 0 0,.int .i64 0,.int .i64 0,.slice none 0 0,.int .i64 0,.int .i64 0,.slice none 0 0,.int .i64 0,.int .i64 0,.slice none 0 0,.int .i64 0,.int .i64 0,.slice none 0 0] TRState))
 refine hK.out _ _ (fun _ => hHeld) ?_
 clear hK K
 refine qfr 16 2 ?_
 simp only [qz0,qz1]
 refine qdon ?_
 go_wp2_with fail
 go_ret
 exact ⟨⟨_,rfl⟩,HB.out.1.trans ((HB2.out.alloc HB2.out.size _).mono HB.out.1.size)⟩
abbrev TRVault : TypeId:=98
theorem rlappend_any {w : World} {v : Nat} {s af : Value} {segs : Int} (hz : w.heap[v]? = some (.cells #[s,.int .i64 segs,.int .i64 0,.int .i64 0,.int .i64 0,.int .u64 1,af,.int .i64 0] TRVault (0,0))) (hs : 1 <= segs /\ segs <= 65535) :
  Calls Tryz.prog 40 #[.pointer (some ⟨v,1,none⟩),.int .i64 15] w fun e w' => e = .returned (.bool true) /\ Chg (fun k => k = v) w w':=by
 have c1 : w.cell? ⟨v,1,none⟩ = some (.int .i64 segs):=cells_at hz 1
 have c2 : w.cell? ⟨v,2,none⟩ = some (.int .i64 0):=cells_at hz 2
 have c3 : w.cell? ⟨v,3,none⟩ = some (.int .i64 0):=cells_at hz 3
 have c4 : w.cell? ⟨v,4,none⟩ = some (.int .i64 0):=cells_at hz 4
 have c5 : w.cell? ⟨v,5,none⟩ = some (.int .u64 1):=cells_at hz 5
 have f3:=frz_of hz 3
 have f4:=frz_of hz 4
 have f5:=frz_of hz 5
 have h1 : ¬ segs <= 0:=by omega
 have h2 : decide (segs <= 0) = false:=decide_eq_false h1
 clear hz hs
 go_enter Tryz.func40,Tryz.ntmps40
 go_upto_region 1 with fail
 refine wp_tailb 8 (by kernel_rfl) (by kernel_rfl) rfl ?_
 simp only [List.take_succ_cons,List.take_zero,List.drop_succ_cons,List.drop_zero,List.map_cons,List.map_nil,bare]
 repeat still_step
 refine wpStill_nil ?_
 go_wp2_with fail
 go_ret
 exact ⟨rfl,(((Chg.refl (fun k => k = v) w).drew.setCell (p:=⟨v,3,none⟩) (fun _ => rfl) _).setCell (p:=⟨v,4,none⟩) (fun _ => rfl) _).setCell (p:=⟨v,5,none⟩) (fun _ => rfl) _⟩
abbrev TRStP : TypeId:=92
theorem rvnew_any (w : World) (segs : Int) (hs : 1 <= segs /\ segs <= 65535) : Calls Tryz.prog 13 #[.int .i64 segs] w fun e w' => (∃ v,e = .returned (.pointer (some ⟨v,0,none⟩))) /\ Below w.heap.size w w':=by
 have H1:=qh (rstnew_any w)
 have HS:=qh hs
 clear hs
 go_enter Tryz.func13,Tryz.ntmps13
 go_wp2_with fail
 refine H1.out.mono ?_
 rintro e w1 ⟨⟨s,rfl,hS⟩,hb1⟩
 obtain ⟨w2,hw2⟩:=qnm (w1.alloc (.cells #[.pointer (some ⟨s,0,none⟩),.int .i64 segs,.int .i64 0,.int .i64 0,.int .i64 0,.int .u64 1,.slice none 0 0,.int .i64 0] TRVault))
 obtain ⟨v,hv⟩:=qnm w1.heap.size
 have hb2:=qba hw2
 have hz2 : w2.heap[v]? = some (.cells #[.pointer (some ⟨s,0,none⟩),.int .i64 segs,.int .i64 0,.int .i64 0,.int .i64 0,.int .u64 1,.slice none 0 0,.int .i64 0] TRVault (0,0)):=by rw [hw2,hv]; exact heap_alloc_new w1 _
 have c0 : w2.cell? ⟨v,0,none⟩ = some (.pointer (some ⟨s,0,none⟩)):=cells_at hz2 0
 have H2:=qh (aI hz2 (aI (hb1.trans (hb2.mono hb1.size)) (show w.heap.size <= v by rw [hv]; exact hb1.size)))
 have HST:=qh (rsettled_any (hS.below hb2))
 have HW:=qh (aI hw2 hv)
 clear hS hb1 hw2 hv hb2 hz2 H1
 go_upto_region 2 with fail
 rw [<- HW.out.1,<- HW.out.2]
 go_wp2_with fail
 refine HST.out.mono ?_
 rintro e w3 ⟨⟨s3,rfl⟩,hb3⟩
 obtain ⟨w4,hw4⟩:=qnm (w3.alloc (.cells #[.pointer (some ⟨s3,0,none⟩)] TRStP))
 have hb4:=qba hw4
 obtain ⟨g,hg⟩:=qnm w3.heap.size
 have hz3:=(hb3.block v (ltH H2.out.1)).trans H2.out.1
 have hz4:=(hb4.block v (ltH hz3)).trans hz3
 clear c0
 have d6 : (w3.alloc (.cells #[.pointer (some ⟨s3,0,none⟩)] TRStP)).cell? ⟨v,6,none⟩ = some (.slice none 0 0):=by rw [<- hw4]; exact cells_at hz4 6
 have e6 : (w3.alloc (.cells #[.pointer (some ⟨s3,0,none⟩)] TRStP)).frozen? ⟨v,6,none⟩ = false:=by rw [<- hw4]; exact frz_of hz4 6
 obtain ⟨w5,hw5⟩:=qnm (w4.setCell ⟨v,6,none⟩ (.slice (some ⟨g,0,none⟩) 1 1))
 have hz5 : w5.heap[v]? = some (.cells #[.pointer (some ⟨s,0,none⟩),.int .i64 segs,.int .i64 0,.int .i64 0,.int .i64 0,.int .u64 1,.slice (some ⟨g,0,none⟩) 1 1,.int .i64 0] TRVault (0,0)):=by
  rw [hw5]
  have e:=cells_set (k:=6) (y:=.slice (some ⟨g,0,none⟩) 1 1) hz4
  simp only [List.setIfInBounds_toArray,List.set_cons_zero,List.set_cons_succ] at e
  exact e
 have hb24:=hb3.trans (hb4.mono hb3.size)
 have hb5 : Below w.heap.size w w5:=by
  rw [hw5]
  exact (H2.out.2.1.trans (hb24.mono H2.out.2.1.size)).setCell (p:=⟨v,6,none⟩) H2.out.2.2 _
 have H5:=qh (aI hb5 H2.out.2.2)
 have HAP:=qh (rlappend_any hz5 HS.out)
 rw [hw4] at hw5
 have HW5:=qh (aI hw5 hg)
 clear hb3 hw4 hb4 hz3 hz4 hw5 hz5 hb24 hb5 HST H2 hg
 go_upto_region 3 with fail
 rw [<- HW5.out.2,<- HW5.out.1]
 go_wp2_with fail
 refine HAP.out.mono ?_
 rintro e w6 ⟨rfl,hc⟩
 have HF:=qh (H5.out.1.trans (hc.below H5.out.1.size (fun k _ e => by rw [e]; exact H5.out.2)))
 clear hc
 go_wp2_with fail
 go_ret
 exact ⟨⟨v,rfl⟩,HF.out⟩
end
section
open Go.RowKit Go.ChangeMaps Go.MapKept
theorem tid_any (w : World) : Calls Tryz.prog 11 #[] w fun e w' => (∃ c,e = .returned (.slice (some ⟨w.heap.size,0,none⟩) 16 c) /\ Bs w' (some ⟨w.heap.size,0,none⟩) 16 c idB) /\ Below w.heap.size w w':=by
 have kc:=fun (w : World) (C : Array Value) (n c : Nat) => Lib.run_convert_bytes_const (P:=Tryz.prog) w 30 5 C n c Tryz.underlying30 Tryz.underlying5
 have hm:=Bs.newRow w #[.int .u8 48,.int .u8 49,.int .u8 50,.int .u8 51,.int .u8 52,.int .u8 53,.int .u8 54,.int .u8 55,.int .u8 56,.int .u8 57,.int .u8 97,.int .u8 98,.int .u8 99,.int .u8 100,.int .u8 101,.int .u8 102] TB (16,17) 16 16 idB rfl (by omega) (by simp [maxLen]) rfl
 have HF:=qh (aI hm ((Below.refl w.heap.size w).alloc (Nat.le_refl _) (.cells #[.int .u8 48,.int .u8 49,.int .u8 50,.int .u8 51,.int .u8 52,.int .u8 53,.int .u8 54,.int .u8 55,.int .u8 56,.int .u8 57,.int .u8 97,.int .u8 98,.int .u8 99,.int .u8 100,.int .u8 101,.int .u8 102] TB (16,17))))
 clear hm
 go_enter Tryz.func11,Tryz.ntmps11
 go_wp2_with fail
 go_ret
 exact ⟨⟨_,rfl,HF.out.1⟩,HF.out.2⟩
theorem seg_nat (n : Nat) (h : 64 <= n) : (((n - 1 - 2 * (n / 4)) / 8 : Nat) : Int) = seg (n : Int):=by
 unfold seg
 omega
theorem gen_good (n g gen : Nat) (hp : 16 <= n / 4) (h1 : 1 <= gen) (h2 : gen <= 2) : PtV.Good ⟨genMk idB gen,newSt.T,newSt.S,newSt.now⟩ g (n / 4) 1 :=
 ⟨⟨h1,by show gen <= 1099511627776; omega,by show 0 <= 1099511627776; omega,by show (0 : Int) <= 0; omega,by show (0 : Int) <= (g : Int); omega,sha_length _⟩,by show genSt.length + 94 <= _; rw [genSt_length]; omega,rfl,new_good,newT_shut,sn_a,by show 0 <= 1099511627776; omega⟩
theorem tbegin_ok (n g : Nat) (h1 : 64 <= n) (h2 : n <= 4096) (hg : g = (n - 1 - 2 * (n / 4)) / 8) (w : World) :
  Calls Tryz.prog 4 #[.int .i64 (n : Int)] w fun e w' => (∃ d v x S V P0 P1 sg,e = .returned (.tuple #[.pointer (some ⟨d,0,none⟩),.pointer (some ⟨v,0,none⟩),.pointer (some ⟨x,0,none⟩)]) /\ KMem w' w.heap.size n g d v S V /\ KD n g S V P0 P1 sg /\ V.σ = newSt /\ V.M.sealed = 0 /\ V.M.next = 1 /\ V.M.wait.length = 1 /\ waitB V.M.wait = 15 /\ V.gen = 2) /\ Below w.heap.size w w':=by
 have HN:=qh (dnew_any n w h1 h2)
 have hgg : (g : Int) = seg (n : Int):=by rw [hg]; exact seg_nat n h1
 have HG:=qh (aI h1 (aI h2 (aI hg hgg)))
 obtain ⟨sgn,hsg⟩:=qnm (seg (n : Int))
 have HOF:=qh (fun W => rof_ok (n : Int) W (by omega) (by omega))
 rw [<- hsg] at HOF
 have HSG:=qh hsg
 have hsb:=seg_bd (n : Int) (by omega) (by omega)
 rw [<- hsg] at hsb
 have HSB:=qh hsb
 clear hsg hgg hg hsb h1 h2
 go_enter Tryz.func4,Tryz.ntmps4
 go_wp2_with fail
 refine HN.out.mono ?_
 rintro e w1 ⟨d,sb,mb,rfl,hD1,hd,hs,hm,hb1⟩
 have HI:=qh (tid_any w1)
 have H1:=qh (aI hD1 (aI hd (aI hs (aI hm hb1))))
 clear hD1 hd hs hm hb1 HN
 go_wp2_with fail
 refine HI.out.mono ?_
 rintro e w2 ⟨⟨ic,rfl,hI⟩,hb2⟩
 have hlt:=H1.out.1.lt
 have HFM:=qh (format_ok (H1.out.1.below hb2) HG.out.1 _ ic idB hI (fun ad e => by injection e with e; subst e; simp only; omega))
 have H2:=qh hb2
 obtain ⟨ib,hib⟩:=qnm w1.heap.size
 rw [<- hib] at HFM ⊢
 clear hI hb2 hlt HI hib
 go_wp2_with fail
 refine HFM.out.mono ?_
 rintro e w3 ⟨rfl,⟨S',hD3,hok⟩,hc3⟩
 have hb3 : Below w.heap.size w w3:=by
  obtain ⟨_,hd,hs,hm,hb1⟩:=H1.out
  exact (hb1.trans (H2.out.mono hb1.size)).trans (hc3.below (Nat.le_trans hb1.size H2.out.size) (fun k _ e => by omega))
 rw [<- HG.out.2.2.1] at hok
 have hpl : isPlan (n : Int) ((n / 4 : Nat) : Int) (g : Int):=⟨by have:=HG.out.1; omega,by have:=HG.out.2.1; omega,by omega,HG.out.2.2.2⟩
 have hbd:=hpl.bd
 have hkd : KDk n g S' ⟨genMk idB 2,newSt.T,newSt.S,newSt.now⟩ ⟨genMk idB 1,newSt.T,newSt.S,newSt.now⟩ (fun _ => List.replicate 1024 0):=⟨HG.out.1,hpl,hok,gen_good n g 2 (by omega) (by omega) (by omega),gen_good n g 1 (by omega) (by omega) (by omega),rfl,rfl⟩
 have HOP:=qh (k_open (B0:=w.heap.size) hD3 ⟨hb3.size,H1.out.2.1,H1.out.2.2.1,H1.out.2.2.2.1⟩ hkd _ rfl 0 rfl (by omega) (fun _ _ _ => rfl) (by decide))
 have HB3:=qh hb3
 clear hD3 hok hc3 hb3 hpl hbd hkd HFM
 go_wp2_with fail
 refine HOP.out.mono ?_
 rintro e w4 ⟨⟨v,V,rfl,hK,hKD,hσ,hse,hnx,hwl,hwb,hgn⟩,hb4⟩
 have H4:=qh (aI hK (aI hKD (aI hσ (aI hse (aI hnx (aI hwl (aI hwb (aI hgn (HB3.out.trans (hb4.mono HB3.out.size))))))))))
 clear hK hKD hσ hse hnx hwl hwb hgn hb4 HOP
 have HO4:=qh (HOF.out w4)
 go_wp2_with fail
 refine HO4.out.mono ?_
 rintro e w5 ⟨rfl,hb5⟩
 obtain ⟨w6,hw6⟩:=qnm (w5.alloc (.cells #[.int .i64 (n : Int),.int .i64 ((n : Int) / 4),.int .i64 sgn] 50))
 have hb6:=qba hw6
 have hz6 : w6.heap[w5.heap.size]? = some (.cells #[.int .i64 (n : Int),.int .i64 ((n : Int) / 4),.int .i64 sgn] 50 (0,0)):=by rw [hw6]; exact heap_alloc_new w5 _
 have c2 : w6.cell? ⟨w5.heap.size,2,none⟩ = some (.int .i64 sgn):=cells_at hz6 2
 have H6:=qh (hb5.trans (hb6.mono hb5.size))
 have HW6:=qh hw6
 have HV:=qh (rvnew_any w6 sgn (by have:=HSB.out; omega))
 clear hb5 hb6 hw6 hz6 HO4
 go_upto_region 8 with fail
 rw [<- HW6.out]
 go_wp2_with fail
 refine HV.out.mono ?_
 rintro e w7 ⟨⟨x,rfl⟩,hb7⟩
 have hb47:=H6.out.trans (hb7.mono H6.out.size)
 have HF:=qh (aI (H4.out.1.below hb47) (H4.out.2.2.2.2.2.2.2.2.trans (hb47.mono H4.out.2.2.2.2.2.2.2.2.size)))
 clear hb7 hb47
 go_wp2_with fail
 go_ret3
 obtain ⟨_,hKD,hσ,hse,hnx,hwl,hwb,hgn,_⟩:=H4.out
 exact ⟨⟨d,v,x,_,_,_,_,_,rfl,HF.out.1,hKD,hσ,hse,hnx,hwl,hwb,hgn⟩,HF.out.2⟩
theorem writes_o (b : List UInt8) : writesS (oSt b) 0 = true:=rfl
theorem awake_any (w : World) (hg : Glob w) : Calls Tryz.prog 8 #[] w fun e w' => e = .returned (.bool true) /\ Below w.heap.size w w':=by
 have HB:=qh (tbegin_ok 100 6 (by omega) (by omega) (by decide) w)
 have HGL:=qh hg
 have kc:=fun (w : World) (C : Array Value) (n c : Nat) => Lib.run_convert_bytes_const (P:=Tryz.prog) w 30 5 C n c Tryz.underlying30 Tryz.underlying5
 clear hg
 go_enter Tryz.func8,Tryz.ntmps8
 go_wp2_with fail
 refine HB.out.mono ?_
 rintro e w1 ⟨⟨d,v,x,S,V,P0,P1,sg,rfl,hK,hD,hσ,hse,hnx,hwl,hwb,hgn⟩,hb1⟩
 have HC:=qh (k_turn (w:=w1) 1 (by omega) [47,97] [] 0 0 0 0 0 none 0 0 (oSt []) 0 zeroNd hK hD (c:=0) (by rw [hσ]; exact newT_ok) (by omega) (by rw [hσ]; exact Nat.zero_le _) [] [1,0,2,47,97] (Bs.nil _) rfl (by simp [safeN]) enc_create (by decide) (by omega) (by rw [hwb]; decide) (by omega) (by omega) (fun B => by rw [hσ]; exact vd_create (HGL.out.below hb1)))
 unfold ovCells rpC zeroNd at HC
 have HB1:=qh hb1
 have HN1:=qh (aI hse (aI hnx (aI hwl (aI hwb hgn))))
 clear hK hD hσ hse hnx hwl hwb hgn hb1 HB
 go_wp2_with fail
 refine HC.out.mono ?_
 rintro e w2 ⟨rfl,⟨V2,hK2,hD2,hσ2,hse2,hnx2,hwl2,hwb2,hgn2⟩,hF2⟩
 obtain ⟨w3,hw3⟩:=qnm (w2.alloc (.cells (noC 0 0) TReply))
 obtain ⟨A1,hA1⟩:=qnm w2.heap.size
 have hb:=qba hw3
 have hz : w3.heap[A1]? = some (.cells (noC 0 0) TReply (0,0)):=by rw [hw3,hA1]; exact heap_alloc_new w2 _
 have HT2:=qh (show Below w.heap.size w w3 from (HB1.out.trans hF2.1).trans (hb.mono (HB1.out.trans hF2.1).size))
 have HZA1:=qh hz
 have HK2:=qh (hK2.below hb)
 unfold noC at hw3
 have HWw3:=qh (aI hw3 hA1)
 have HD2:=qh (aI hD2 (aI hσ2 (aI hse2 (aI hnx2 (aI hwl2 (aI hwb2 hgn2))))))
 clear hb hz hK2 hD2 hσ2 hse2 hnx2 hwl2 hwb2 hgn2 hF2 hw3 hA1 HC
 go_upto_region 5 with fail
 rw [<- HWw3.out.1,<- HWw3.out.2]
 clear HWw3
 obtain ⟨w4,hw4⟩:=qnm (w3.alloc (.cells #[.int .u8 97,.int .u8 119,.int .u8 97,.int .u8 107,.int .u8 101] TB (5,6)))
 obtain ⟨g4,hg4⟩:=qnm w3.heap.size
 have hb4:=qba hw4
 have hB4 : Bs w4 (some ⟨g4,0,none⟩) 5 5 [97,119,97,107,101]:=by rw [hw4,hg4]; exact Bs.newRow w3 _ TB (5,6) 5 5 _ rfl (by omega) (by simp [maxLen]) rfl
 have HT4:=qh (HT2.out.trans (hb4.mono HT2.out.size))
 obtain ⟨hD2,hσ2,hse2,hnx2,hwl2,hwb2,hgn2⟩:=HD2.out
 obtain ⟨hse,hnx,hwl,hwb,hgn⟩:=HN1.out
 have HC:=qh (k_turn (w:=w4) 5 (by omega) [] [] 0 0 0 0 0 (some ⟨g4,0,none⟩) 5 5 (oSt [97,119,97,107,101]) 5 zeroNd (HK2.out.below hb4) hD2 (c:=1) (by rw [hσ2]; exact tr_a [] 0 false (by decide) (by decide)) (by omega) (by rw [hσ2]; exact Nat.zero_le _) [97,119,97,107,101] [5,0,0,0,5,97,119,97,107,101] hB4 rfl (by simp [safeN]) enc_write (by decide) (by omega) (by rw [hwb2,hwb]; decide) (by omega) (by omega) (fun B => by rw [hσ2]; exact vd_write (HGL.out.below HT4.out) _ _ hB4))
 unfold ovCells rpC zeroNd at HC
 have HZ4:=qh ((hb4.block A1 (ltH HZA1.out)).trans HZA1.out)
 have HW4:=qh (aI hw4 hg4)
 have HN2:=qh (show V2.M.sealed = 0 /\ V2.M.next = 1 /\ V2.M.wait.length = 2 /\ waitB V2.M.wait = 35 /\ V2.gen = 2 from ⟨by omega,by omega,by omega,by rw [hwb2,hwb]; rfl,by omega⟩)
 clear hw4 hg4 hb4 hB4 hD2 hσ2 hse2 hnx2 hwl2 hwb2 hgn2 hse hnx hwl hwb hgn HZA1 HD2 HN1 HT2 HK2 HB1
 go_wp2_with fail
 rw [<- HW4.out.1,<- HW4.out.2]
 refine HC.out.mono ?_
 rintro e w5 ⟨rfl,⟨V5,hK5,hD5,hσ5,hse5,hnx5,hwl5,hwb5,hgn5⟩,hF5⟩
 obtain ⟨w6,hw6⟩:=qnm (w5.alloc (.cells (noC 0 5) TReply))
 obtain ⟨A2,hA2⟩:=qnm w5.heap.size
 have hb:=qba hw6
 have hz : w6.heap[A2]? = some (.cells (noC 0 5) TReply (0,0)):=by rw [hw6,hA2]; exact heap_alloc_new w5 _
 have HT5:=qh (show Below w.heap.size w w6 from (HT4.out.trans hF5.1).trans (hb.mono (HT4.out.trans hF5.1).size))
 have hzA1:=(hb.block A1 (ltH (hF5.2 A1 _ _ HZ4.out))).trans (hF5.2 A1 _ _ HZ4.out)
 clear HZ4
 have HZ4:=qh hzA1
 clear hzA1
 have HZA2:=qh hz
 have HK5:=qh (hK5.below hb)
 unfold noC at hw6
 have HWw6:=qh (aI hw6 hA2)
 have hN5 : V5.M.sealed = 0 /\ V5.M.next = 1 /\ V5.M.wait.length = 3 /\ waitB V5.M.wait = 60:=⟨by have:=HN2.out; omega,by have:=HN2.out; omega,by have:=HN2.out; omega,by rw [hwb5,HN2.out.2.2.2.1]; rfl⟩
 have HC2:=qh (k_shut (w:=w6) 6 (by omega) [] [] 0 0 0 5 0 none 0 0 (aSt [97,119,97,107,101] 5) 0 zeroNd HK5.out hD5 (c:=1) (by rw [hσ5]; exact tr_a _ 0 false (by decide) (by decide)) (by omega) (by rw [hσ5]; exact Nat.zero_le _) [] [6,0,0,0,0,0,0,0,0,0,5] (Bs.nil _) rfl (by rw [hσ5,writes_o]; simp [safeN]) enc_close (by decide) (by omega) (by rw [hN5.2.2.2]; decide) (by omega) (by omega) (fun B => by rw [hσ5]; exact vd_close (HGL.out.below HT5.out) _ (by decide)))
 unfold ovCells rpC zeroNd at HC2
 clear hb hz hK5 hD5 hσ5 hse5 hnx5 hwl5 hwb5 hgn5 hF5 hw6 hA2 HC hN5 HN2 HK5 HT4 HW4
 go_upto_region 6 with fail
 rw [<- HWw6.out.1,<- HWw6.out.2]
 clear HWw6
 go_wp2_with fail
 refine HC2.out.mono ?_
 rintro e w7 ⟨rfl,⟨S7,V7,sg7,hK7,hD7,hσ7,hse7,hnx7,hwl7,hgn7⟩,hF7⟩
 obtain ⟨w8,hw8⟩:=qnm (w7.alloc (.cells (noC 0 0) TReply))
 obtain ⟨A3,hA3⟩:=qnm w7.heap.size
 have hb:=qba hw8
 have hz : w8.heap[A3]? = some (.cells (noC 0 0) TReply (0,0)):=by rw [hw8,hA3]; exact heap_alloc_new w7 _
 have HT7:=qh (show Below w.heap.size w w8 from (HT5.out.trans hF7.1).trans (hb.mono (HT5.out.trans hF7.1).size))
 have hzA1:=(hb.block A1 (ltH (hF7.2 A1 _ _ HZ4.out))).trans (hF7.2 A1 _ _ HZ4.out)
 clear HZ4
 have HZ4:=qh hzA1
 clear hzA1
 have hzA2:=(hb.block A2 (ltH (hF7.2 A2 _ _ HZA2.out))).trans (hF7.2 A2 _ _ HZA2.out)
 clear HZA2
 have HZA2:=qh hzA2
 clear hzA2
 have HZA3:=qh hz
 have HK7:=qh (hK7.below hb)
 unfold noC at hw8
 have HWw8:=qh (aI hw8 hA3)
 have HC3:=qh (k_no (w:=w8) 8 (by omega) [47,97] [] 0 0 0 0 0 none 0 0 (aSt [97,119,97,107,101] 5) 0 zeroNd HK7.out (c:=1) (by rw [hσ7]; exact tr_a _ 5 true (by decide) (by decide)) (by omega) (by rw [hσ7]; exact Nat.zero_le _) 28 (by decide) (fun B => by rw [hσ7]; exact vd_unlink (HGL.out.below HT7.out) _ 5 (by decide) (by decide) (by decide)))
 unfold ovCells rpC zeroNd at HC3
 have HS7:=qh hσ7
 clear hb hz hK7 hD7 hσ7 hse7 hnx7 hwl7 hgn7 hF7 hw8 hA3 HC2 HK7 HT5
 go_upto_region 7 with fail
 rw [<- HWw8.out.1,<- HWw8.out.2]
 clear HWw8
 go_wp2_with fail
 refine HC3.out.mono ?_
 rintro e w9 ⟨rfl,hK9,hF9⟩
 obtain ⟨w10,hw10⟩:=qnm (w9.alloc (.cells (noC 28 0) TReply))
 obtain ⟨A4,hA4⟩:=qnm w9.heap.size
 have hb:=qba hw10
 have hz : w10.heap[A4]? = some (.cells (noC 28 0) TReply (0,0)):=by rw [hw10,hA4]; exact heap_alloc_new w9 _
 have HT9:=qh (show Below w.heap.size w w10 from (HT7.out.trans hF9.1).trans (hb.mono (HT7.out.trans hF9.1).size))
 have hzA1:=(hb.block A1 (ltH (hF9.2 A1 _ _ HZ4.out))).trans (hF9.2 A1 _ _ HZ4.out)
 clear HZ4
 have HZ4:=qh hzA1
 clear hzA1
 have hzA2:=(hb.block A2 (ltH (hF9.2 A2 _ _ HZA2.out))).trans (hF9.2 A2 _ _ HZA2.out)
 clear HZA2
 have HZA2:=qh hzA2
 clear hzA2
 have hzA3:=(hb.block A3 (ltH (hF9.2 A3 _ _ HZA3.out))).trans (hF9.2 A3 _ _ HZA3.out)
 clear HZA3
 have HZA3:=qh hzA3
 clear hzA3
 have HZA4:=qh hz
 have HK9:=qh (hK9.below hb)
 unfold noC at hw10
 have HWw10:=qh (aI hw10 hA4)
 have HC4:=qh (k_look (w:=w10) 12 (by omega) [47,97] [] 0 0 0 0 0 none 0 0 0 (fileN 5 5 true) HK9.out (c:=1) (by rw [HS7.out]; exact tr_a _ 5 true (by decide) (by decide)) (by omega) (by rw [HS7.out]; exact Nat.zero_le _) rfl (by simp [safeN]) (fun B => by rw [HS7.out]; exact vd_stat (HGL.out.below HT9.out) [97,119,97,107,101] 5 (by decide) (by decide)))
 unfold ovCells rpC fileN at HC4
 clear hb hz hK9 hF9 hw10 hA4 HC3 HK9 HT7
 go_upto_region 8 with fail
 rw [<- HWw10.out.1,<- HWw10.out.2]
 clear HWw10
 have a0 : w10.cell? ⟨A1,0,none⟩ = some (.int .i64 0):=cells_at HZ4.out 0
 have b1 : w10.cell? ⟨A2,1,none⟩ = some (.int .i64 5):=cells_at HZA2.out 1
 have c0 : w10.cell? ⟨A3,0,none⟩ = some (.int .i64 0):=cells_at HZA3.out 0
 have d0 : w10.cell? ⟨A4,0,none⟩ = some (.int .i64 28):=cells_at HZA4.out 0
 go_wp2_with fail
 refine HC4.out.mono ?_
 rintro e w11 ⟨rfl,_,hF11⟩
 have HF:=qh (HT9.out.trans hF11.1)
 clear hF11
 have fd1 : ∀ w : World,(Instr.field 36 (.agg #[.int .i64 0,.int .i64 0,.slice none 0 0,.slice none 0 0,.int .i64 1,.int .i64 1,.int .i64 1,.int .i64 5,.int .u64 5,.bool true]) 4).run Tryz.prog w = .ok (.agg #[.int .i64 1,.int .i64 1,.int .i64 1,.int .i64 5,.int .u64 5,.bool true]) w:=fun _ => by kernel_rfl
 have fd2 : ∀ w : World,(Instr.field 34 (.agg #[.int .i64 1,.int .i64 1,.int .i64 1,.int .i64 5,.int .u64 5,.bool true]) 3).run Tryz.prog w = .ok (.int .i64 5) w:=fun _ => by kernel_rfl
 go_wp2_with fail
 go_ret
 exact ⟨rfl,HF.out⟩
end
end Go.Proofs.YtabdcphioccgnaaGreatDoor
