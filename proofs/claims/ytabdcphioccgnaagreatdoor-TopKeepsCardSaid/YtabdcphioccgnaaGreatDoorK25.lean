/- StNew; StSave; StSave2; StFd. -/
import Derived.Test.YtabdcphioccgnaaGreatDoorK23
set_option maxRecDepth 100000
set_option maxHeartbeats 8000000
namespace Go.Proofs.YtabdcphioccgnaaGreatDoor
section
open Go.RowKit Go.ChangeMaps Go.MapKept
theorem st_cells {w w' : World} {s t sn now : Nat} {q0 q1 q2 q3 q4 q5 q6 q7 : Option Addr} (h : w.cell? ⟨s,0,none⟩ = some (Value.pointer (some ⟨t,0,none⟩)) /\ w.cell? ⟨s,1,none⟩ = some (Value.pointer (some ⟨sn,0,none⟩)) /\ w.cell? ⟨s,2,none⟩ = some (Value.int .u64 (now : Int)) /\ w.cell? ⟨s,3,none⟩ = some (Value.pointer q0) /\ w.cell? ⟨s,4,none⟩ = some (Value.pointer q1) /\ w.cell? ⟨s,5,none⟩ = some (Value.pointer q2) /\ w.cell? ⟨s,6,none⟩ = some (Value.pointer q3) /\ w.cell? ⟨s,7,none⟩ = some (Value.pointer q4) /\ w.cell? ⟨s,8,none⟩ = some (Value.pointer q5) /\ w.cell? ⟨s,9,none⟩ = some (Value.pointer q6) /\ w.cell? ⟨s,10,none⟩ = some (Value.pointer q7)) (hs : s < w.heap.size) (hb : Below w.heap.size w w') : w'.cell? ⟨s,0,none⟩ = some (Value.pointer (some ⟨t,0,none⟩)) /\ w'.cell? ⟨s,1,none⟩ = some (Value.pointer (some ⟨sn,0,none⟩)) /\ w'.cell? ⟨s,2,none⟩ = some (Value.int .u64 (now : Int)) /\ w'.cell? ⟨s,3,none⟩ = some (Value.pointer q0) /\ w'.cell? ⟨s,4,none⟩ = some (Value.pointer q1) /\ w'.cell? ⟨s,5,none⟩ = some (Value.pointer q2) /\ w'.cell? ⟨s,6,none⟩ = some (Value.pointer q3) /\ w'.cell? ⟨s,7,none⟩ = some (Value.pointer q4) /\ w'.cell? ⟨s,8,none⟩ = some (Value.pointer q5) /\ w'.cell? ⟨s,9,none⟩ = some (Value.pointer q6) /\ w'.cell? ⟨s,10,none⟩ = some (Value.pointer q7):=by
 obtain ⟨h0,h1,h2,h3,h4,h5,h6,h7,h8,h9,h10⟩:=h
 exact ⟨(hb.cell (p:=⟨s,0,none⟩) hs).trans h0,(hb.cell (p:=⟨s,1,none⟩) hs).trans h1,(hb.cell (p:=⟨s,2,none⟩) hs).trans h2,(hb.cell (p:=⟨s,3,none⟩) hs).trans h3,(hb.cell (p:=⟨s,4,none⟩) hs).trans h4,(hb.cell (p:=⟨s,5,none⟩) hs).trans h5,(hb.cell (p:=⟨s,6,none⟩) hs).trans h6,(hb.cell (p:=⟨s,7,none⟩) hs).trans h7,(hb.cell (p:=⟨s,8,none⟩) hs).trans h8,(hb.cell (p:=⟨s,9,none⟩) hs).trans h9,(hb.cell (p:=⟨s,10,none⟩) hs).trans h10⟩
theorem SnapsAt.weaken {w : World} {L B B' C sn : Nat} {S : SnS} (h : SnapsAt w L B C sn S) (hB : B' <= B) : SnapsAt w L B' C sn S:=by
 obtain ⟨h0,lv,av,hs,h1,h2,h3,h4,h5⟩:=h
 refine ⟨Nat.le_trans hB h0,lv,av,hs,h1,h2,h3,?_,h5⟩
 refine ⟨h4.1,?_⟩
 rcases h4.2 with h4 | ⟨g,cap,cur,h5,h6,h7⟩
 ·exact .inl h4
 ·exact .inr ⟨g,cap,cur,h5,Nat.le_trans hB h6,h7⟩
def newSt : StM:=⟨[(0,freshIt 0 2)],noSn,0,fun _ => none⟩
theorem stnew_any (w : World) (L : Nat) (hL : L <= w.heap.size) :
  Calls Tryz.prog 35 #[] w fun e w' => ∃ s,e = .returned (.pointer (some ⟨s,0,none⟩)) /\ StAt w' L L w'.heap.size s newSt /\ Below w.heap.size w w':=by
 have HT:=qh (tnew_any L w)
 go_enter Tryz.func35,Tryz.ntmps35
 go_wp2_with fail
 refine HT.out.mono ?_
 rintro e w1 ⟨t1,rfl,hT1,hb1⟩
 go_wp2_with fail
 refine (snew_any w1 L w.heap.size).mono ?_
 rintro e w2 ⟨sn2,rfl,hS2,hb2⟩
 have hb02 : Below w.heap.size w w2:=hb1.trans (hb2.mono hb1.size)
 have hba:=(Below.refl w2.heap.size w2).alloc (Nat.le_refl _) (.cells (stC t1 sn2 0 (fun _ => none)) TState)
 have hb03:=hb02.trans (hba.mono hb02.size)
 have HF:=qh (aI (show StAt (w2.alloc (.cells (stC t1 sn2 0 (fun _ => none)) TState)) L L (w2.alloc (.cells (stC t1 sn2 0 (fun _ => none)) TState)).heap.size w2.heap.size newSt from by
  refine StAt.frozen (B:=w.heap.size) (C:=w.heap.size) ⟨t1,sn2,fun _ => none,?_⟩ hL
  exact ⟨hb02.size,heap_alloc_new w2 _,(hT1.below hb2).below hba,(hS2.weaken hb1.size).below hb02.size hba,fun _ _ _ => rfl,fun i o _ ho => by simp [newSt] at ho⟩) hb03)
 clear hT1 hb1 hS2 hb2 hb02 hba hb03
 go_wp2_with fail
 go_ret
 exact ⟨_,rfl,HF.out.1,HF.out.2⟩
theorem stcopy_any {w : World} {L B s t sn c : Nat} {fp : Nat -> Option Nat} {σ : StM} (h : StIn w L B w.heap.size s t sn fp σ) (ok : TrOk c σ.T) (hc : c <= 60000) (hl : σ.S.l.length <= 8) (hL : L <= w.heap.size) :
  Calls Tryz.prog 14 #[.pointer (some ⟨s,0,none⟩)] w fun e w' => ∃ s' t' sn',e = .returned (.pointer (some ⟨s',0,none⟩)) /\ StIn w' L w.heap.size w.heap.size s' t' sn' fp σ /\ Below w.heap.size w w':=by
 obtain ⟨mb,F,G,hT⟩:=h.tree
 have hbd : Below w.heap.size w w.drew:=(Below.refl _ w).drew
 have HTC:=qh (fun w' (hb : Below w.heap.size w w') => tcopy_any (hT.below hb) ok hc (Nat.le_trans hL hb.size))
 have HSC:=qh (fun w' (hb : Below w.heap.size w w') => scopy_any (h.snaps.below (Nat.le_refl _) hb) hb.size hl)
 have HLT:=qh h.lt
 have HX:=qh h
 obtain ⟨q0,hq0⟩:=qnm ((fp 0).map (fun g => (⟨g,0,none⟩ : Addr)))
 obtain ⟨q1,hq1⟩:=qnm ((fp 1).map (fun g => (⟨g,0,none⟩ : Addr)))
 obtain ⟨q2,hq2⟩:=qnm ((fp 2).map (fun g => (⟨g,0,none⟩ : Addr)))
 obtain ⟨q3,hq3⟩:=qnm ((fp 3).map (fun g => (⟨g,0,none⟩ : Addr)))
 obtain ⟨q4,hq4⟩:=qnm ((fp 4).map (fun g => (⟨g,0,none⟩ : Addr)))
 obtain ⟨q5,hq5⟩:=qnm ((fp 5).map (fun g => (⟨g,0,none⟩ : Addr)))
 obtain ⟨q6,hq6⟩:=qnm ((fp 6).map (fun g => (⟨g,0,none⟩ : Addr)))
 obtain ⟨q7,hq7⟩:=qnm ((fp 7).map (fun g => (⟨g,0,none⟩ : Addr)))
 obtain ⟨now,hnow⟩:=qnm σ.now
 have hcel:=h.cel
 unfold stC fdV at hcel
 rw [<- hq0,<- hq1,<- hq2,<- hq3,<- hq4,<- hq5,<- hq6,<- hq7,<- hnow] at hcel
 have HQ:=qh (aI hq0 (aI hq1 (aI hq2 (aI hq3 (aI hq4 (aI hq5 (aI hq6 (aI hq7 hnow))))))))
 have c0:=cells_at hcel 0
 have c1:=cells_at hcel 1
 have c2:=cells_at hcel 2
 have c3:=cells_at hcel 3
 have c4:=cells_at hcel 4
 have c5:=cells_at hcel 5
 have c6:=cells_at hcel 6
 have c7:=cells_at hcel 7
 have c8:=cells_at hcel 8
 have c9:=cells_at hcel 9
 have c10:=cells_at hcel 10
 simp only [List.getElem?_toArray,List.getElem?_cons_zero,List.getElem?_cons_succ] at c0 c1 c2 c3 c4 c5 c6 c7 c8 c9 c10
 clear h ok hcel hT hbd hq0 hq1 hq2 hq3 hq4 hq5 hq6 hq7 hnow
 go_enter Tryz.func14,Tryz.ntmps14
 go_upto_region 1 with fail
 refine heldB_start (fun i => [0,1,2,3,4,5,6,7,8,9,10,11,12,13,14,15,16,17,18,19].contains i) (fun w' => w'.cell? ⟨s,0,none⟩ = some (Value.pointer (some ⟨t,0,none⟩)) /\ w'.cell? ⟨s,1,none⟩ = some (Value.pointer (some ⟨sn,0,none⟩)) /\ w'.cell? ⟨s,2,none⟩ = some (Value.int .u64 (now : Int)) /\ w'.cell? ⟨s,3,none⟩ = some (Value.pointer q0) /\ w'.cell? ⟨s,4,none⟩ = some (Value.pointer q1) /\ w'.cell? ⟨s,5,none⟩ = some (Value.pointer q2) /\ w'.cell? ⟨s,6,none⟩ = some (Value.pointer q3) /\ w'.cell? ⟨s,7,none⟩ = some (Value.pointer q4) /\ w'.cell? ⟨s,8,none⟩ = some (Value.pointer q5) /\ w'.cell? ⟨s,9,none⟩ = some (Value.pointer q6) /\ w'.cell? ⟨s,10,none⟩ = some (Value.pointer q7)) (by kernel_rfl) ?_ (fun hHeld => ?_)
 ·go_keep
 refine qtk 0 3 ?_
 simp only [qz0,qz1]
 refine qtk 1 4 ?_
 simp only [qz0,qz1]
 refine qtk 2 5 ?_
 simp only [qz0,qz1]
 refine qtk 3 6 ?_
 simp only [qz0,qz1]
 refine qtk 5 8 ?_
 simp only [qz0,qz1]
 refine qtk 6 9 ?_
 simp only [qz0,qz1]
 refine qtk 7 10 ?_
 simp only [qz0,qz1]
 refine qtk 8 11 ?_
 simp only [qz0,qz1]
 refine qtk 10 13 ?_
 simp only [qz0,qz1]
 refine qtk 11 14 ?_
 simp only [qz0,qz1]
 refine qtk 12 15 ?_
 simp only [qz0,qz1]
 refine qtk 13 16 ?_
 simp only [qz0,qz1]
 refine qtk 14 17 ?_
 simp only [qz0,qz1]
 refine qtk 15 18 ?_
 simp only [qz0,qz1]
 refine qtk 16 19 ?_
 simp only [qz0,qz1]
 refine qtk 17 20 ?_
 simp only [qz0,qz1]
 refine qone 4 fun K hK => ?_
 go_simp
 refine (HTC.out _ (Below.refl _ _).drew).mono ?_
 rintro e w2 ⟨t2,rfl,hT2,hb2⟩
 have hHeld : (fun w' => w'.cell? ⟨s,0,none⟩ = some (Value.pointer (some ⟨t,0,none⟩)) /\ w'.cell? ⟨s,1,none⟩ = some (Value.pointer (some ⟨sn,0,none⟩)) /\ w'.cell? ⟨s,2,none⟩ = some (Value.int .u64 (now : Int)) /\ w'.cell? ⟨s,3,none⟩ = some (Value.pointer q0) /\ w'.cell? ⟨s,4,none⟩ = some (Value.pointer q1) /\ w'.cell? ⟨s,5,none⟩ = some (Value.pointer q2) /\ w'.cell? ⟨s,6,none⟩ = some (Value.pointer q3) /\ w'.cell? ⟨s,7,none⟩ = some (Value.pointer q4) /\ w'.cell? ⟨s,8,none⟩ = some (Value.pointer q5) /\ w'.cell? ⟨s,9,none⟩ = some (Value.pointer q6) /\ w'.cell? ⟨s,10,none⟩ = some (Value.pointer q7)) w2:=st_cells hHeld HLT.out hb2
 have hb02:=(Below.refl w.heap.size w).drew.trans hb2
 go_wp2_with fail
 refine hK.out _ _ (fun _ => hHeld) ?_
 clear hK K
 refine qone 9 fun K hK => ?_
 go_simp
 refine (HSC.out _ hb02).mono ?_
 rintro e w3 ⟨sn3,rfl,hS3,hb3⟩
 have hHeld : (fun w' => w'.cell? ⟨s,0,none⟩ = some (Value.pointer (some ⟨t,0,none⟩)) /\ w'.cell? ⟨s,1,none⟩ = some (Value.pointer (some ⟨sn,0,none⟩)) /\ w'.cell? ⟨s,2,none⟩ = some (Value.int .u64 (now : Int)) /\ w'.cell? ⟨s,3,none⟩ = some (Value.pointer q0) /\ w'.cell? ⟨s,4,none⟩ = some (Value.pointer q1) /\ w'.cell? ⟨s,5,none⟩ = some (Value.pointer q2) /\ w'.cell? ⟨s,6,none⟩ = some (Value.pointer q3) /\ w'.cell? ⟨s,7,none⟩ = some (Value.pointer q4) /\ w'.cell? ⟨s,8,none⟩ = some (Value.pointer q5) /\ w'.cell? ⟨s,9,none⟩ = some (Value.pointer q6) /\ w'.cell? ⟨s,10,none⟩ = some (Value.pointer q7)) w3:=st_cells hHeld (Nat.lt_of_lt_of_le HLT.out hb02.size) hb3
 go_wp2_with fail
 refine hK.out _ _ (fun _ => hHeld) ?_
 clear hK K
 refine qtk 18 21 ?_
 simp only [qz0,qz1]
 refine qone 19 fun K hK => ?_
 go_simp
 have hba:=(Below.refl w3.heap.size w3).alloc (Nat.le_refl _) (.cells #[.pointer (some ⟨t2,0,none⟩),.pointer (some ⟨sn3,0,none⟩),.int .u64 (now : Int),.pointer q0,.pointer q1,.pointer q2,.pointer q3,.pointer q4,.pointer q5,.pointer q6,.pointer q7] TState)
 have hb03:=hb02.trans (hb3.mono hb02.size)
 refine hK.out _ _ (fun _ => st_cells hHeld (Nat.lt_of_lt_of_le HLT.out hb03.size) hba) ?_
 clear hK K
 refine qfr 20 2 ?_
 simp only [qz0,qz1]
 refine qdon ?_
 have hb04:=hb03.trans (hba.mono hb03.size)
 have HF:=qh (aI (show StIn (w3.alloc (.cells #[.pointer (some ⟨t2,0,none⟩),.pointer (some ⟨sn3,0,none⟩),.int .u64 (now : Int),.pointer q0,.pointer q1,.pointer q2,.pointer q3,.pointer q4,.pointer q5,.pointer q6,.pointer q7] TState)) L w.heap.size w.heap.size w3.heap.size t2 sn3 fp σ from by
  obtain ⟨hq0,hq1,hq2,hq3,hq4,hq5,hq6,hq7,hnow⟩:=HQ.out
  have hn:=heap_alloc_new w3 (.cells #[.pointer (some ⟨t2,0,none⟩),.pointer (some ⟨sn3,0,none⟩),.int .u64 (now : Int),.pointer q0,.pointer q1,.pointer q2,.pointer q3,.pointer q4,.pointer q5,.pointer q6,.pointer q7] TState)
  rw [hq0,hq1,hq2,hq3,hq4,hq5,hq6,hq7,hnow] at hn
  rw [hq0,hq1,hq2,hq3,hq4,hq5,hq6,hq7,hnow] at hba hb04 ⊢
  refine ⟨hb03.size,hn,((hT2.weaken (by simp)).below hb3).below hba,(hS3.weaken hb02.size).below hb03.size hba,HX.out.no,fun i o hi ho => ?_⟩
  obtain ⟨g,h1,h2,h3⟩:=HX.out.fd i o hi ho
  exact ⟨g,h1,h2,h3.below hb04⟩) hb04)
 clear hT2 hb2 hS3 hb3 hb02 hb03 hba hb04 hHeld HQ HX
 go_wp2_with fail
 go_ret
 exact ⟨_,_,_,rfl,HF.out.1,HF.out.2⟩
def Commits (w : World) (L t : Nat) (T : Tr) : Prop:=∀ w',Below w.heap.size w w' -> Calls Tryz.prog 102 #[.pointer (some ⟨t,0,none⟩)] w' fun e w'' => ∃ t',e = .returned (.pointer (some ⟨t',0,none⟩)) /\ TreeAt w'' L w'.heap.size t' T /\ Below w'.heap.size w' w''
theorem Commits.shut {w : World} {L B t c : Nat} {T : Tr} (h : TreeAt w L B t T) (ok : TrOk c T) (hc : c <= 60000) (hL : L <= w.heap.size) (hs : Shut0 T) : Commits w L t T:=fun w' hb => by
 obtain ⟨mb,F,G,hT⟩:=h
 exact commit_any (hT.below hb) ok hc (Nat.le_trans hL hb.size) hs
theorem settled_any {w : World} {L B s t sn : Nat} {fp : Nat -> Option Nat} {σ : StM} {T' : Tr} (h : StIn w L B w.heap.size s t sn fp σ) (hcm : Commits w L t T') (hl : σ.S.l.length <= 8) (hL : L <= w.heap.size) :
  Calls Tryz.prog 89 #[.pointer (some ⟨s,0,none⟩)] w fun e w' => ∃ s',e = .returned (.pointer (some ⟨s',0,none⟩)) /\ StAt w' L L w'.heap.size s' ⟨T',σ.S,σ.now,fun _ => none⟩ /\ Below w.heap.size w w':=by
 have hbd : Below w.heap.size w w.drew:=(Below.refl _ w).drew
 have HTC:=qh hcm
 have HSC:=qh (fun w' (hb : Below w.heap.size w w') => scopy_any (h.snaps.below (Nat.le_refl _) hb) hb.size hl)
 have HLT:=qh h.lt
 obtain ⟨now,hnow⟩:=qnm σ.now
 have hcel:=h.cel
 unfold stC at hcel
 rw [<- hnow] at hcel
 have HN:=qh hnow
 have c0:=cells_at hcel 0
 have c1:=cells_at hcel 1
 have c2:=cells_at hcel 2
 simp only [List.getElem?_toArray,List.getElem?_cons_zero,List.getElem?_cons_succ] at c0 c1 c2
 clear h hcm hcel hbd hnow
 go_enter Tryz.func89,Tryz.ntmps89
 go_upto_region 1 with fail
 refine heldB_start (fun i => [0,1,2,3,4,5,6,7,8,9,10,11,12,13,14,15].contains i) (fun w' => w'.cell? ⟨s,0,none⟩ = some (Value.pointer (some ⟨t,0,none⟩)) /\ w'.cell? ⟨s,1,none⟩ = some (Value.pointer (some ⟨sn,0,none⟩)) /\ w'.cell? ⟨s,2,none⟩ = some (Value.int .u64 (now : Int))) (by kernel_rfl) ?_ (fun hHeld => ?_)
 ·go_keep
 refine qtk 0 3 ?_
 simp only [qz0,qz1]
 refine qtk 1 4 ?_
 simp only [qz0,qz1]
 refine qtk 2 5 ?_
 simp only [qz0,qz1]
 refine qtk 3 6 ?_
 simp only [qz0,qz1]
 refine qtk 5 8 ?_
 simp only [qz0,qz1]
 refine qtk 6 9 ?_
 simp only [qz0,qz1]
 refine qtk 7 10 ?_
 simp only [qz0,qz1]
 refine qtk 8 11 ?_
 simp only [qz0,qz1]
 refine qtk 10 13 ?_
 simp only [qz0,qz1]
 refine qtk 11 14 ?_
 simp only [qz0,qz1]
 refine qtk 12 15 ?_
 simp only [qz0,qz1]
 refine qtk 13 16 ?_
 simp only [qz0,qz1]
 refine qone 4 fun K hK => ?_
 go_simp
 refine (HTC.out _ (Below.refl _ _).drew).mono ?_
 rintro e w2 ⟨t2,rfl,hT2,hb2⟩
 have hHeld : (fun w' => w'.cell? ⟨s,0,none⟩ = some (Value.pointer (some ⟨t,0,none⟩)) /\ w'.cell? ⟨s,1,none⟩ = some (Value.pointer (some ⟨sn,0,none⟩)) /\ w'.cell? ⟨s,2,none⟩ = some (Value.int .u64 (now : Int))) w2:=⟨(hb2.cell (p:=⟨s,0,none⟩) HLT.out).trans hHeld.1,(hb2.cell (p:=⟨s,1,none⟩) HLT.out).trans hHeld.2.1,(hb2.cell (p:=⟨s,2,none⟩) HLT.out).trans hHeld.2.2⟩
 have hb02:=(Below.refl w.heap.size w).drew.trans hb2
 have hlt2 : s < w2.heap.size:=Nat.lt_of_lt_of_le HLT.out hb02.size
 go_wp2_with fail
 refine hK.out _ _ (fun _ => hHeld) ?_
 clear hK K
 refine qone 9 fun K hK => ?_
 go_simp
 refine (HSC.out _ hb02).mono ?_
 rintro e w3 ⟨sn3,rfl,hS3,hb3⟩
 have hHeld : (fun w' => w'.cell? ⟨s,0,none⟩ = some (Value.pointer (some ⟨t,0,none⟩)) /\ w'.cell? ⟨s,1,none⟩ = some (Value.pointer (some ⟨sn,0,none⟩)) /\ w'.cell? ⟨s,2,none⟩ = some (Value.int .u64 (now : Int))) w3:=⟨(hb3.cell (p:=⟨s,0,none⟩) hlt2).trans hHeld.1,(hb3.cell (p:=⟨s,1,none⟩) hlt2).trans hHeld.2.1,(hb3.cell (p:=⟨s,2,none⟩) hlt2).trans hHeld.2.2⟩
 go_wp2_with fail
 refine hK.out _ _ (fun _ => hHeld) ?_
 clear hK K
 refine qtk 14 17 ?_
 simp only [qz0,qz1]
 refine qone 15 fun K hK => ?_
 go_simp
 have hba:=(Below.refl w3.heap.size w3).alloc (Nat.le_refl _) (.cells #[.pointer (some ⟨t2,0,none⟩),.pointer (some ⟨sn3,0,none⟩),.int .u64 (now : Int),.pointer none,.pointer none,.pointer none,.pointer none,.pointer none,.pointer none,.pointer none,.pointer none] TState)
 have hb03:=hb02.trans (hb3.mono hb02.size)
 have hlt3 : s < w3.heap.size:=Nat.lt_of_lt_of_le HLT.out hb03.size
 refine hK.out _ _ (fun _ => ⟨(hba.cell (p:=⟨s,0,none⟩) hlt3).trans hHeld.1,(hba.cell (p:=⟨s,1,none⟩) hlt3).trans hHeld.2.1,(hba.cell (p:=⟨s,2,none⟩) hlt3).trans hHeld.2.2⟩) ?_
 clear hK K
 refine qfr 16 2 ?_
 simp only [qz0,qz1]
 refine qdon ?_
 have hb04:=hb03.trans (hba.mono hb03.size)
 have HF:=qh (aI (show StAt (w3.alloc (.cells #[.pointer (some ⟨t2,0,none⟩),.pointer (some ⟨sn3,0,none⟩),.int .u64 (now : Int),.pointer none,.pointer none,.pointer none,.pointer none,.pointer none,.pointer none,.pointer none,.pointer none] TState)) L L (w3.alloc (.cells #[.pointer (some ⟨t2,0,none⟩),.pointer (some ⟨sn3,0,none⟩),.int .u64 (now : Int),.pointer none,.pointer none,.pointer none,.pointer none,.pointer none,.pointer none,.pointer none,.pointer none] TState)).heap.size w3.heap.size ⟨T',σ.S,σ.now,fun _ => none⟩ from by
  have hn:=heap_alloc_new w3 (.cells #[.pointer (some ⟨t2,0,none⟩),.pointer (some ⟨sn3,0,none⟩),.int .u64 (now : Int),.pointer none,.pointer none,.pointer none,.pointer none,.pointer none,.pointer none,.pointer none,.pointer none] TState)
  rw [HN.out] at hn hba hb04 ⊢
  refine StAt.frozen (B:=w.heap.size) (C:=w.heap.size) ⟨t2,sn3,fun _ => none,?_⟩ hL
  exact ⟨hb03.size,hn,((hT2.weaken (by simp)).below hb3).below hba,(hS3.weaken hb02.size).below hb03.size hba,fun _ _ _ => rfl,fun i o hi ho => by simp at ho⟩) hb04)
 clear hT2 hb2 hS3 hb3 hb02 hb03 hba hb04 hHeld
 go_wp2_with fail
 go_ret
 exact ⟨_,rfl,HF.out.1,HF.out.2⟩
def snBytes0 (S : SnS) : List UInt8:=be S.next 8 ++ (lenBytes S.last ++ be 0 1)
theorem ssave0_any {w : World} {L B C sn : Nat} {S : SnS} (h : SnapsAt w L B C sn S) (h0 : S.l = []) (hnx : S.next < 9223372036854775808) :
  Calls Tryz.prog 104 #[.pointer (some ⟨sn,0,none⟩)] w fun e w' => ∃ v,e = .returned v /\ Own w' w.heap.size v (snBytes0 S) /\ Below w.heap.size w w':=by
 obtain ⟨_,lv,av,hs,h1,h2,h3,h4,_⟩:=h
 rw [h0] at h4
 obtain ⟨la,lc,rfl⟩ : ∃ la lc,lv = .slice la 0 lc:=by
  rcases h4.2 with ⟨rfl,_⟩ | ⟨g,cap,cur,rfl,_⟩
  ·exact ⟨_,_,rfl⟩
  ·exact ⟨_,_,rfl⟩
 obtain ⟨N,hN⟩ : ∃ N,S.last.length = N:=⟨_,rfl⟩
 obtain ⟨aa,ac,rfl,hAB⟩:=h2.bsn hN
 have c0:=cells_at h1 0
 have c1:=cells_at h1 1
 have c2:=cells_at h1 2
 simp only [List.getElem?_toArray,List.getElem?_cons_zero,List.getElem?_cons_succ] at c0 c1 c2
 have HLT:=qh (Array.getElem?_eq_some_iff.1 h1).1
 obtain ⟨nx,hnx2⟩:=qnm S.next
 rw [<- hnx2] at c1 hnx
 have e1 : IntKind.u64.wrap (nx : Int) = (nx : Int):=by simp [IntKind.wrap,IntKind.bits,IntKind.signed]; omega
 have HNX:=qh hnx2
 have HAB:=qh hAB
 have HC:=qh (show ∀ W,Below w.heap.size w W -> W.cell? ⟨sn,0,none⟩ = some (.slice la 0 lc) /\ W.cell? ⟨sn,1,none⟩ = some (.int .i64 (nx : Int)) /\ W.cell? ⟨sn,2,none⟩ = some (.slice aa N ac) from fun W hb =>
  ⟨(hb.cell (p:=⟨sn,0,none⟩) HLT.out).trans c0,(hb.cell (p:=⟨sn,1,none⟩) HLT.out).trans c1,(hb.cell (p:=⟨sn,2,none⟩) HLT.out).trans c2⟩)
 clear h1 h2 h3 h4 hAB c0 c1 c2 hnx2 h0 hN
 go_enter Tryz.func104,Tryz.ntmps104
 go_wp2_with fail
 refine (wnew_any w).mono ?_
 rintro e w1 ⟨rfl,hW1,hb1⟩
 obtain ⟨q,hq⟩:=qnm w.heap.size
 have hI1 : WI w w.heap.size w.heap.size w1 []:=⟨(Ext.refl w).step hb1,none,hW1⟩
 obtain ⟨c0,c1,c2⟩:=HC.out w1 hb1
 have HQ:=qh hq
 rw [<- hq] at hI1 ⊢
 clear hW1 hb1 hq
 go_wp2_with fail
 refine (wlong_ok nx hI1 (by unfold big; decide)).mono ?_
 rintro e w2 ⟨rfl,hI2⟩
 obtain ⟨c0,c1,c2⟩:=HC.out w2 (by have:=hI2.1.1; rwa [HQ.out] at this)
 clear hI1
 go_wp2_with fail
 refine (wbytes_ok hI2 HQ.out.symm HAB.out (by simp [be_length]; unfold big; decide)).mono ?_
 rintro e w3 ⟨rfl,hI3⟩
 obtain ⟨c0,c1,c2⟩:=HC.out w3 (by have:=hI3.1.1; rwa [HQ.out] at this)
 clear hI2
 have hl3:=lenBytes_len S.last
 go_wp2_with fail
 refine (wbyte_ok 0 hI3 (by omega) (by simp [be_length]; unfold big; omega)).mono ?_
 rintro e w4 ⟨rfl,hI4⟩
 obtain ⟨c0,c1,c2⟩:=HC.out w4 (by have:=hI4.1.1; rwa [HQ.out] at this)
 clear hI3
 go_wp2_with fail
 refine wp_loop_rounds 1 ?_
 rw [rounds_succ]
 have HD:=qh (wdone_ok hI4 (by simp [be_length]; unfold big; omega))
 have HB4:=qh (show Below w.heap.size w w4 from by have:=hI4.1.1; rwa [HQ.out] at this)
 clear hI4 c0 c1 c2 hl3
 go_wp2_with fail
 refine HD.out.mono ?_
 rintro e w5 ⟨da,dc,rfl,ho5,_,hI5⟩
 have e0 : ((([] : List UInt8) ++ be nx 8) ++ lenBytes S.last) ++ be 0 1 = snBytes0 S:=by unfold snBytes0; rw [HNX.out]; simp [List.append_assoc]
 rw [e0] at ho5 ⊢
 obtain ⟨NN,hNN⟩:=qnm ((snBytes0 S).length)
 rw [<- hNN] at ho5 ⊢
 have HF:=qh (aI ho5 hI5)
 clear ho5 hI5 hNN e0
 go_wp2_with fail
 go_ret
 refine ⟨_,rfl,HF.out.1.base HB4.out.size,?_⟩
 have:=HF.out.2.1.1
 rwa [HQ.out] at this
def stBytes (T : Tr) (S : SnS) (now : Nat) : List UInt8:=be now 8 ++ (be (treeBytes T).length 8 ++ (treeBytes T ++ snBytes0 S))
theorem treeBytes_len {w : World} {L B t c : Nat} {T : Tr} (h : TreeAt w L B t T) (ok : TrOk c T) (hc : c <= 60000) : (treeBytes T).length <= 128000002:=by
 obtain ⟨mb,F,G,hT⟩:=h
 have:=take_len T T.length (fun p hp => by
  have hx:=getK_of_mem hT.ne (k:=p.1) (v:=p.2) hp
  obtain ⟨h1,h2⟩:=ok.item hT hx
  exact itBytes_len p.2 h1 h2 (by have:=(ok.nd _ _ hx).2.2.2.2; omega)) ok.len
 rw [List.take_of_length_le (Nat.le_refl _)] at this
 unfold treeBytes
 rw [List.length_append,be_length]
 omega
theorem stsave_any {w : World} {L B C s t sn c : Nat} {fp : Nat -> Option Nat} {σ : StM} {T' : Tr} (h : StIn w L B C s t sn fp σ) (hC : C <= w.heap.size) (hcm : Commits w L t T') (ok : TrOk c T') (hc : c <= 60000) (h0 : σ.S.l = []) (hnx : σ.S.next < 9223372036854775808) (hla : σ.S.last.length <= 32) :
  Calls Tryz.prog 36 #[.pointer (some ⟨s,0,none⟩)] w fun e w' => ∃ v,e = .returned v /\ Own w' w.heap.size v (stBytes T' σ.S σ.now) /\ Below w.heap.size w w':=by
 have HCM:=qh (hcm w (Below.refl _ _))
 have HOK:=qh ok
 have HLT:=qh h.lt
 have HSN:=qh (fun w' (hb : Below w.heap.size w w') => ssave0_any (h.snaps.below hC hb) h0 hnx)
 obtain ⟨now,hnow⟩:=qnm σ.now
 have hcel:=h.cel
 unfold stC at hcel
 rw [<- hnow] at hcel
 have HN:=qh hnow
 have HC:=qh (show ∀ W,Below w.heap.size w W -> W.cell? ⟨s,1,none⟩ = some (.pointer (some ⟨sn,0,none⟩)) /\ W.cell? ⟨s,2,none⟩ = some (.int .u64 (now : Int)) from fun W hb =>
  ⟨(hb.cell (p:=⟨s,1,none⟩) HLT.out).trans (cells_at hcel 1),(hb.cell (p:=⟨s,2,none⟩) HLT.out).trans (cells_at hcel 2)⟩)
 have c0:=cells_at hcel 0
 simp only [List.getElem?_toArray,List.getElem?_cons_zero] at c0
 clear h hcm ok hcel hnow
 go_enter Tryz.func36,Tryz.ntmps36
 go_wp2_with fail
 refine HCM.out.mono ?_
 rintro e w1 ⟨t1,rfl,hT1,hb1⟩
 have htl:=treeBytes_len hT1 HOK.out hc
 have HTL:=qh htl
 obtain ⟨mb1,F1,G1,hT1⟩:=hT1
 have HTS:=qh (tsave_any hT1 HOK.out hc)
 have HB1:=qh hb1
 clear hT1 hb1 c0 htl HCM
 go_wp2_with fail
 refine HTS.out.mono ?_
 rintro e w2 ⟨v2,rfl,ho2,hb2⟩
 obtain ⟨N,hN⟩:=qnm ((treeBytes T').length)
 have HNN:=qh hN
 have hNl : N <= 128000002:=by have:=HTL.out; omega
 obtain ⟨a2,k2,rfl,hB2⟩:=ho2.bsn (n:=N) hN.symm
 have HB2:=qh (HB1.out.trans (hb2.mono HB1.out.size))
 have HBS:=qh hB2
 clear ho2 hb2 hB2 hN HTS
 go_wp2_with fail
 refine (wnew_any w2).mono ?_
 rintro e w3 ⟨rfl,hW3,hb3⟩
 obtain ⟨q,hq⟩:=qnm w2.heap.size
 have hI3 : WI w2 w2.heap.size w2.heap.size w3 []:=⟨(Ext.refl w2).step hb3,none,hW3⟩
 have HQ:=qh hq
 rw [<- hq] at hI3 ⊢
 have HCC:=qh (show ∀ W L,WI w2 q q W L -> Below w.heap.size w W from fun W L h => by
  have:=h.1.1
  rw [HQ.out] at this
  exact HB2.out.trans (this.mono HB2.out.size))
 obtain ⟨c1,c2⟩:=HC.out w3 (HCC.out _ _ hI3)
 clear hW3 hb3 hq
 go_wp2_with fail
 refine (wlong_ok now hI3 (by unfold big; decide)).mono ?_
 rintro e w4 ⟨rfl,hI4⟩
 clear hI3 c1 c2
 have e1 : IntKind.u64.wrap (N : Int) = (N : Int):=by simp [IntKind.wrap,IntKind.bits,IntKind.signed]; omega
 go_wp2_with fail
 refine (wlong_ok N hI4 (by simp [be_length]; unfold big; decide)).mono ?_
 rintro e w5 ⟨rfl,hI5⟩
 clear hI4
 go_wp2_with fail
 refine (wraw_ok hI5 (hI5.1.bs HQ.out.symm HBS.out) (by simp [be_length]; unfold big; omega)).mono ?_
 rintro e w6 ⟨rfl,hI6⟩
 obtain ⟨c1,c2⟩:=HC.out w6 (HCC.out _ _ hI6)
 have HSS:=qh (HSN.out w6 (HCC.out _ _ hI6))
 clear hI5
 go_wp2_with fail
 refine HSS.out.mono ?_
 rintro e w7 ⟨v7,rfl,ho7,hb7⟩
 obtain ⟨M,hM⟩:=qnm ((snBytes0 σ.S).length)
 have hMl : M <= 100:=by rw [hM]; unfold snBytes0; have:=lenBytes_le σ.S.last; simp [be_length]; omega
 obtain ⟨a7,k7,rfl,hB7⟩:=ho7.bsn (n:=M) hM.symm
 have hI7:=hI6.below hb7
 have HM:=qh hM
 clear ho7 hb7 hI6 HSS c1 c2 hM
 go_wp2_with fail
 refine (wraw_ok hI7 hB7 (by simp [be_length,<- HNN.out]; unfold big; omega)).mono ?_
 rintro e w8 ⟨rfl,hI8⟩
 have HD:=qh (wdone_ok hI8 (by simp [be_length,<- HNN.out,<- HM.out]; unfold big; omega))
 have HB8:=qh (HCC.out _ _ hI8)
 clear hI7 hI8 hB7
 go_wp2_with fail
 refine HD.out.mono ?_
 rintro e w9 ⟨da,dc,rfl,ho9,_,hI9⟩
 have e0 : (((([] : List UInt8) ++ be now 8) ++ be N 8) ++ treeBytes T') ++ snBytes0 σ.S = stBytes T' σ.S σ.now:=by unfold stBytes; rw [<- HN.out,<- HNN.out]; simp [List.append_assoc]
 rw [e0] at ho9 ⊢
 obtain ⟨NN,hNN⟩:=qnm ((stBytes T' σ.S σ.now).length)
 rw [<- hNN] at ho9 ⊢
 have HF:=qh (aI (ho9.base HB8.out.size) (HCC.out _ _ hI9))
 clear ho9 hI9 hNN e0
 go_wp2_with fail
 go_ret
 exact ⟨_,rfl,HF.out.1,HF.out.2⟩
end
section
open Go.RowKit Go.ChangeMaps Go.MapKept
variable {w : World} {L B C s t sn : Nat} {fp : Nat -> Option Nat} {σ : StM}
theorem StIn.fdcell (h : StIn w L B C s t sn fp σ) (n : Nat) (hn : n < 8) : w.cell? ⟨s,3 + n,none⟩ = some (fdV fp n):=by
 have h1:=cells_at h.cel (3 + n)
 have hn' : n = 0 ∨ n = 1 ∨ n = 2 ∨ n = 3 ∨ n = 4 ∨ n = 5 ∨ n = 6 ∨ n = 7:=by omega
 rcases hn' with rfl | rfl | rfl | rfl | rfl | rfl | rfl | rfl <;> exact h1
theorem fd_hit (h : StIn w L B C s t sn fp σ) (n : Nat) (hn : n < 8) (o : Opn) (ho : σ.fds n = some o) (wr : Bool) (hw : o.wr = wr) :
  Calls Tryz.prog 43 #[.pointer (some ⟨s,0,none⟩),.int .i64 (n : Int),.bool wr] w fun e w' => (∃ g,e = .returned (.tuple #[.pointer (some ⟨g,0,none⟩),.bool true]) /\ fp n = some g /\ OpnAt w L g o) /\ w = w':=by
 obtain ⟨g,hg,_,v,h1,h2⟩:=h.fd n o hn ho
 have c1:=h.fdcell n hn
 unfold fdV at c1
 rw [hg] at c1
 simp only [Option.map_some] at c1
 have d0 : w.cell? ⟨g,0,none⟩ = some (.bool o.wr):=cells_at h1 0
 rw [hw] at d0
 have HX:=qh (aI hg (show OpnAt w L g o from ⟨v,h1,h2⟩))
 have e1 : (0 : Int) <= (n : Int):=by omega
 have e2 : (n : Int) < 8:=by omega
 have e3 : ¬ (n : Int) < 0:=by omega
 have e4 : ¬ (8 : Int) <= (n : Int):=by omega
 have e5 : (wr != wr) = false:=by cases wr <;> rfl
 have e6 : (!(wr == wr)) = false:=by cases wr <;> rfl
 clear h h1 h2 hg ho hw
 go_enter Tryz.func43,Tryz.ntmps43
 go_wp2_with fail
 go_ret2
 exact ⟨⟨g,rfl,HX.out.1,HX.out.2⟩,rfl⟩
theorem fd_miss (h : StIn w L B C s t sn fp σ) (n : Int) (wr : Bool) (hm : ∀ (k : Nat) o,n = (k : Int) -> k < 8 -> σ.fds k = some o -> o.wr ≠ wr) :
  Calls Tryz.prog 43 #[.pointer (some ⟨s,0,none⟩),.int .i64 n,.bool wr] w fun e w' => e = .returned (.tuple #[.pointer none,.bool false]) /\ w = w':=by
 by_cases h1 : n < 0
 ·clear h hm
  go_enter Tryz.func43,Tryz.ntmps43
  go_wp2_with fail
  go_ret2
  exact ⟨rfl,rfl⟩
 by_cases h2 : 8 <= n
 ·clear h hm
  go_enter Tryz.func43,Tryz.ntmps43
  go_wp2_with fail
  go_ret2
  exact ⟨rfl,rfl⟩
 obtain ⟨k,rfl⟩ : ∃ k : Nat,n = k:=⟨n.toNat,by omega⟩
 have hk : k < 8:=by omega
 have c1:=h.fdcell k hk
 unfold fdV at c1
 have e1 : (0 : Int) <= (k : Int):=by omega
 have e2 : (k : Int) < 8:=by omega
 cases hf : σ.fds k with
 | none =>
  rw [h.no k hk hf] at c1
  simp only [Option.map_none] at c1
  clear h hm hf
  go_enter Tryz.func43,Tryz.ntmps43
  go_wp2_with fail
  go_ret2
  exact ⟨rfl,rfl⟩
 | some o =>
  obtain ⟨g,hg,_,v,h3,_⟩:=h.fd k o hk hf
  rw [hg] at c1
  simp only [Option.map_some] at c1
  have hne:=hm k o rfl hk hf
  have d0 : w.cell? ⟨g,0,none⟩ = some (.bool o.wr):=cells_at h3 0
  have hx : o.wr = !wr:=by cases hw : o.wr <;> cases wr <;> simp_all
  rw [hx] at d0
  clear h hm hf h3 hg hne hx
  cases wr
  ·go_enter Tryz.func43,Tryz.ntmps43
   go_wp2_with fail
   go_ret2
   exact ⟨rfl,rfl⟩
  ·go_enter Tryz.func43,Tryz.ntmps43
   go_wp2_with fail
   go_ret2
   exact ⟨rfl,rfl⟩
def writesS (σ : StM) (n : Int) : Bool:=if 0 <= n /\ n < 8 then (match σ.fds n.toNat with | some o => o.wr | none => false) else false
theorem writesS_miss (σ : StM) (n : Int) (h : writesS σ n = false) : ∀ (k : Nat) o,n = (k : Int) -> k < 8 -> σ.fds k = some o -> o.wr ≠ true:=by
 intro k o hn hk ho hw
 subst hn
 unfold writesS at h
 rw [if_pos ⟨by omega,by omega⟩] at h
 simp [ho,hw] at h
theorem writesS_hit (σ : StM) (n : Int) (h : writesS σ n = true) : ∃ (k : Nat) (o : Opn),n = (k : Int) /\ k < 8 /\ σ.fds k = some o /\ o.wr = true:=by
 unfold writesS at h
 by_cases hn : 0 <= n /\ n < 8
 ·rw [if_pos hn] at h
  cases ho : σ.fds n.toNat with
  | none => rw [ho] at h; cases h
  | some o => rw [ho] at h; exact ⟨n.toNat,o,by omega,by omega,ho,h⟩
 ·rw [if_neg hn] at h; cases h
theorem writes_any (h : StIn w L B C s t sn fp σ) (n : Int) :
  Calls Tryz.prog 15 #[.pointer (some ⟨s,0,none⟩),.int .i64 n] w fun e w' => e = .returned (.bool (writesS σ n)) /\ w = w':=by
 cases hw : writesS σ n with
 | true =>
  obtain ⟨k,o,rfl,hk,ho,hwr⟩:=writesS_hit σ n hw
  have HF:=qh (fd_hit h k hk o ho true hwr)
  clear h hw ho hwr
  go_enter Tryz.func15,Tryz.ntmps15
  go_wp2_with fail
  refine HF.out.mono ?_
  rintro e w1 ⟨⟨g,rfl,_⟩,rfl⟩
  go_wp2_with fail
  go_ret
  exact ⟨rfl,rfl⟩
 | false =>
  have HF:=qh (fd_miss h n true (writesS_miss σ n hw))
  clear h hw
  go_enter Tryz.func15,Tryz.ntmps15
  go_wp2_with fail
  refine HF.out.mono ?_
  rintro e w1 ⟨rfl,rfl⟩
  go_wp2_with fail
  go_ret
  exact ⟨rfl,rfl⟩
end
end Go.Proofs.YtabdcphioccgnaaGreatDoor
