/- RefNew. -/
import Derived.Test.YtabdcphioccgnaaGreatDoorK35
set_option maxRecDepth 100000
set_option maxHeartbeats 8000000
namespace Go.Proofs.YtabdcphioccgnaaGreatDoor
section
open Go.RowKit
abbrev TNdR : TypeId:=34
abbrev TNds : TypeId:=267
abbrev TBs : TypeId:=30
abbrev TBss : TypeId:=229
abbrev TEnt : TypeId:=324
abbrev TEnts : TypeId:=268
abbrev TRTree : TypeId:=270
section
variable {P : Program} {ops : Array Oper} {Q : Exit -> Act -> World -> Prop} {md : Region.Mode} {S : World -> Prop} {bef : Nat -> Bool}
theorem heldB_three {fuel : Nat} {listed : Array Bool} {a : Act} {w : World} (i j k : Nat) {oi oj ok : Oper} (hr : Region.ready md ops listed = [i,j,k]) (hi : ops[i]? = some oi) (hj : ops[j]? = some oj) (hk : ops[k]? = some ok)
  (h1 : ∀ K' : Act -> World -> Prop,Shut (∀ a w,(bef i = true -> S w) -> wpAnyB P md ops Q bef S fuel (listed.setIfInBounds i true) a w -> K' a w) -> if Region.wanted oi (yielded ops a.tmps) = true then Oper.wp P oi a w K' Q else K' (a.put oi.dst undef) w)
  (h2 : ∀ K' : Act -> World -> Prop,Shut (∀ a w,(bef j = true -> S w) -> wpAnyB P md ops Q bef S fuel (listed.setIfInBounds j true) a w -> K' a w) -> if Region.wanted oj (yielded ops a.tmps) = true then Oper.wp P oj a w K' Q else K' (a.put oj.dst undef) w)
  (h3 : ∀ K' : Act -> World -> Prop,Shut (∀ a w,(bef k = true -> S w) -> wpAnyB P md ops Q bef S fuel (listed.setIfInBounds k true) a w -> K' a w) -> if Region.wanted ok (yielded ops a.tmps) = true then Oper.wp P ok a w K' Q else K' (a.put ok.dst undef) w) :
  wpAnyB P md ops Q bef S (fuel + 1) listed a w:=by
 refine ⟨fun h0 => (by rw [hr] at h0; cases h0),fun x hx => ?_⟩
 rw [hr] at hx
 rcases List.mem_cons.1 hx with rfl | hx
 ·exact wpOp_step hi (fun K' hK => h1 K' (fun a w hS hW => hK a w ⟨hS,hW⟩))
 rcases List.mem_cons.1 hx with rfl | hx
 ·exact wpOp_step hj (fun K' hK => h2 K' (fun a w hS hW => hK a w ⟨hS,hW⟩))
 ·obtain rfl:=List.mem_singleton.1 hx
  exact wpOp_step hk (fun K' hK => h3 K' (fun a w hS hW => hK a w ⟨hS,hW⟩))
end
structure RNI (w0 W : World) (l : List (Nat × TypeId)) : Prop where
 bel : Below w0.heap.size w0 W
 pl : ∀ p ∈ l,w0.heap.size <= p.1 /\ W.heap[p.1]? = some (.cells #[] p.2 (0,0))
theorem RNI.new {w0 W W' : World} {l : List (Nat × TypeId)} (h : RNI w0 W l) (T : TypeId) {g : Nat} (hw : W' = W.alloc (.cells #[] T)) (hg : g = W.heap.size) : RNI w0 W' ((g,T) :: l):=by
 subst hw hg
 have hb : Below W.heap.size W (W.alloc (.cells #[] T)):=(Below.refl _ _).alloc (Nat.le_refl _) _
 refine ⟨h.bel.trans (hb.mono h.bel.size),fun p hp => ?_⟩
 rcases List.mem_cons.1 hp with rfl | hp
 ·exact ⟨h.bel.size,heap_alloc_new _ _⟩
 ·exact ⟨(h.pl p hp).1,(hb.block p.1 (Array.getElem?_eq_some_iff.1 (h.pl p hp).2).1).trans (h.pl p hp).2⟩
theorem RNI.app {w0 W W' : World} {l l' : List (Nat × TypeId)} (h : RNI w0 W l) {g : Nat} {T : TypeId} (hp : (g,T) ∈ l) (hg : W.grownBy W' (some g)) (hl : ∀ p ∈ l',p ∈ l /\ p.2 ≠ T) : RNI w0 W' l':=by
 refine ⟨h.bel.grown hg h.bel.size (fun k e => by cases e; exact (h.pl _ hp).1),fun p hp' => ?_⟩
 obtain ⟨h1,h2⟩:=hl p hp'
 refine ⟨(h.pl p h1).1,(hg.block p.1 (Array.getElem?_eq_some_iff.1 (h.pl p h1).2).1 (fun e => h2 ?_)).trans (h.pl p h1).2⟩
 have e2 : p.1 = g:=by injection e
 have h3:=(h.pl p h1).2
 have h4:=(h.pl _ hp).2
 rw [e2] at h3
 simp only at h4
 rw [h3] at h4; injection h4 with h4; injection h4 with _ h4
theorem own_zero {W : World} {g : Nat} {T : TypeId} {size : Nat} (h : W.heap[g]? = some (.cells #[] T (0,0))) : W.ownsRow 0 T size (.slice (some ⟨g,0,none⟩) 0 0) 0 [] :=
 ⟨by simp,.inr ⟨g,0,#[],rfl,Nat.zero_le _,h,Nat.le_refl _,Nat.zero_le _,by simp,by simp⟩⟩
theorem infoNdR : (Tryz.prog.info? TNdR).map (fun i => (i.zero,i.size,i.bytes)) = some (some (.agg #[.int .i64 0,.int .i64 0,.int .i64 0,.int .i64 0,.int .u64 0,.bool false]),6,48):=by kernel_rfl
theorem infoBsR : (Tryz.prog.info? TBs).map (fun i => (i.zero,i.size,i.bytes)) = some (some (.slice none 0 0),1,24):=by kernel_rfl
theorem row_slice {W : World} {B n size : Nat} {T : TypeId} {v : Value} {xs : List Value} (h : W.ownsRow B T size v n xs) : ∃ a c,v = .slice a n c:=by
 rcases h.2 with ⟨h1,h2⟩ | ⟨g,c,_,h1,_⟩
 ·exact ⟨none,0,by rw [h1,h2]⟩
 ·exact ⟨_,c,h1⟩
theorem app_nd {W : World} {g a : Nat} (hz : W.heap[g]? = some (.cells #[] TNdR (0,0))) (ha : W.heap[a]? = some (.cells #[.int .i64 0,.int .i64 2,.int .i64 1,.int .i64 0,.int .u64 0,.bool true] TNdR (0,0))) :
  ∃ a' c' W',(Builtin.append_ #[TNds,TNds] TNds #[.slice (some ⟨g,0,none⟩) 0 0,.slice (some ⟨a,0,none⟩) 1 1]).run Tryz.prog W = .ok (.slice a' 1 c') W' /\ W.grownBy W' (some g):=by
 obtain ⟨i,hi,hz0,hz1,hz2⟩:=info_any infoNdR
 obtain ⟨v',w',k1,k2,k3,_⟩:=run_append_own_at (P:=Tryz.prog) W 0 TNds TNds TNdR i _ 6 48 Tryz.underlying267 hi hz0 hz1 hz2 rfl (by decide) _ 0 [] (own_zero hz) ⟨a,0,none⟩ 1 1 [.int .i64 0,.int .i64 2,.int .i64 1,.int .i64 0,.int .u64 0,.bool true] (by simp) (fun j u hu => by
   have hj : j < 6:=by have:=(List.getElem?_eq_some_iff.1 hu).1; simpa using this
   have e : (⟨a,0,none⟩ : Addr).add j = ⟨a,j,none⟩:=by cases j <;> simp [Addr.add]
   rw [e,cells_at ha j]
   simpa using hu) (by intro u hu; simp at hu; rcases hu with rfl | rfl | rfl | rfl | rfl | rfl <;> rfl) (by unfold maxLen; omega) (by omega) (Nat.zero_le _)
 obtain ⟨a',c',rfl⟩:=row_slice k2
 exact ⟨a',c',w',k1,k3⟩
theorem app_bs {W : World} {g a : Nat} (hz : W.heap[g]? = some (.cells #[] TBs (0,0))) (ha : W.heap[a]? = some (.cells #[.slice none 0 0] TBs (0,0))) :
  ∃ a' c' W',(Builtin.append_ #[TBss,TBss] TBss #[.slice (some ⟨g,0,none⟩) 0 0,.slice (some ⟨a,0,none⟩) 1 1]).run Tryz.prog W = .ok (.slice a' 1 c') W' /\ W.grownBy W' (some g):=by
 obtain ⟨i,hi,hz0,hz1,hz2⟩:=info_any infoBsR
 obtain ⟨v',w',k1,k2,k3,_⟩:=run_append_own_at (P:=Tryz.prog) W 0 TBss TBss TBs i _ 1 24 Tryz.underlying229 hi hz0 hz1 hz2 rfl (by decide) _ 0 [] (own_zero hz) ⟨a,0,none⟩ 1 1 [.slice none 0 0] (by simp) (fun j u hu => by
   have hj : j < 1:=by have:=(List.getElem?_eq_some_iff.1 hu).1; simpa using this
   have e : (⟨a,0,none⟩ : Addr).add j = ⟨a,j,none⟩:=by cases j <;> simp [Addr.add]
   rw [e,cells_at ha j]
   simpa using hu) (by intro u hu; simp at hu; rcases hu with rfl; rfl) (by unfold maxLen; omega) (by omega) (Nat.zero_le _)
 obtain ⟨a',c',rfl⟩:=row_slice k2
 exact ⟨a',c',w',k1,k3⟩
def RT0 (w : World) (t a g : Nat) : Prop:=w.heap[t]? = some (.cells #[.slice (some ⟨a,0,none⟩) 1 1,.slice (some ⟨g,0,none⟩) 1 1,.slice none 0 0] TRTree (0,0)) /\ w.heap[a]? = some (.cells #[.int .i64 0,.int .i64 2,.int .i64 1,.int .i64 0,.int .u64 0,.bool true] TNdR (0,0)) /\ w.heap[g]? = some (.cells #[.slice none 0 0] TBs (0,0))
theorem RT0.below {w w' : World} {t a g : Nat} (h : RT0 w t a g) (hb : Below w.heap.size w w') : RT0 w' t a g :=
 ⟨(hb.block t (ltH h.1)).trans h.1,(hb.block a (ltH h.2.1)).trans h.2.1,(hb.block g (ltH h.2.2)).trans h.2.2⟩
theorem rtnew_any (w : World) : Calls Tryz.prog 105 #[] w fun e w' => (∃ t a g,e = .returned (.pointer (some ⟨t,0,none⟩)) /\ RT0 w' t a g) /\ Below w.heap.size w w':=by
 obtain ⟨w1,hw1⟩:=qnm (w.alloc (.cells #[.int .i64 0,.int .i64 2,.int .i64 1,.int .i64 0,.int .u64 0,.bool true] TNdR))
 obtain ⟨w2,hw2⟩:=qnm (w1.alloc (.cells #[.slice none 0 0] TBs))
 obtain ⟨w3,hw3⟩:=qnm (w2.alloc (.cells #[.slice (some ⟨w.heap.size,0,none⟩) 1 1,.slice (some ⟨w1.heap.size,0,none⟩) 1 1,.slice none 0 0] TRTree))
 have hb1:=qba hw1
 have hb2:=qba hw2
 have hb3:=qba hw3
 have z1 : w1.heap[w.heap.size]? = some (.cells #[.int .i64 0,.int .i64 2,.int .i64 1,.int .i64 0,.int .u64 0,.bool true] TNdR (0,0)):=by rw [hw1]; exact heap_alloc_new w _
 have z2 : w2.heap[w1.heap.size]? = some (.cells #[.slice none 0 0] TBs (0,0)):=by rw [hw2]; exact heap_alloc_new w1 _
 have z3 : w3.heap[w2.heap.size]? = some (.cells #[.slice (some ⟨w.heap.size,0,none⟩) 1 1,.slice (some ⟨w1.heap.size,0,none⟩) 1 1,.slice none 0 0] TRTree (0,0)):=by rw [hw3]; exact heap_alloc_new w2 _
 have HF:=qh (show RT0 w3 w2.heap.size w.heap.size w1.heap.size /\ Below w.heap.size w w3 from ⟨⟨z3,((hb2.trans (hb3.mono hb2.size)).block _ (ltH z1)).trans z1,(hb3.block _ (ltH z2)).trans z2⟩,hb1.trans ((hb2.trans (hb3.mono hb2.size)).mono hb1.size)⟩)
 rw [hw3,hw2,hw1] at HF
 clear hb1 hb2 hb3 z1 z2 z3 hw1 hw2 hw3 w1 w2 w3
 go_enter Tryz.func105,Tryz.ntmps105
 go_wp2_with fail
 go_ret
 exact ⟨⟨_,_,_,rfl,by simpa using HF.out.1⟩,by simpa using HF.out.2⟩
theorem infoEnt : (Tryz.prog.info? TEnt).map (fun i => (i.zero,i.size,i.bytes)) = some (some (.agg #[.int .i64 0,.string ByteArray.empty,.int .i64 0]),3,32):=by kernel_rfl
theorem app_none {W : World} {g : Nat} (hz : W.heap[g]? = some (.cells #[] TEnt (0,0))) : (Builtin.append_ #[TEnts,TEnts] TEnts #[.slice (some ⟨g,0,none⟩) 0 0,.slice none 0 0]).run Tryz.prog W = .ok (.slice (some ⟨g,0,none⟩) 0 0) W:=by
 obtain ⟨i,hi,_⟩:=info_any infoEnt
 exact run_append_none0 (P:=Tryz.prog) (w:=W) 0 TEnts TEnts TEnt i 3 Tryz.underlying268 hi _ 0 0 [] (own_zero hz)
theorem rtcopy_any {w : World} {t a g : Nat} (h : RT0 w t a g) : Calls Tryz.prog 180 #[.pointer (some ⟨t,0,none⟩)] w fun e w' => (∃ c,e = .returned (.pointer (some ⟨c,0,none⟩))) /\ Below w.heap.size w w':=by
 obtain ⟨wd,hwd⟩:=qnm w.drew
 have hb : Below w.heap.size w wd:=by rw [hwd]; exact (Below.refl _ _).drew
 have HT0:=qh (h.below hb)
 have hs : wd.heap.size = w.heap.size:=by rw [hwd]; rfl
 have HI0:=qh (show RNI wd wd [] from ⟨Below.refl _ _,fun p hp => by simp at hp⟩)
 have HT:=qh (show ∀ W,Below wd.heap.size wd W -> W.cell? ⟨t,0,none⟩ = some (.slice (some ⟨a,0,none⟩) 1 1) /\ W.cell? ⟨t,1,none⟩ = some (.slice (some ⟨g,0,none⟩) 1 1) /\ W.cell? ⟨t,2,none⟩ = some (.slice none 0 0) from fun W hW => have hz:=((h.below hb).below hW).1; ⟨cells_at hz 0,cells_at hz 1,cells_at hz 2⟩)
 have HB:=qh (aI hb hs)
 clear h hb hs
 go_enter Tryz.func180,Tryz.ntmps180
 go_upto_region 1 with fail
 refine heldB_start (fun i => List.contains (List.range 20) i) (fun W => W.cell? ⟨t,0,none⟩ = some (.slice (some ⟨a,0,none⟩) 1 1) /\ W.cell? ⟨t,1,none⟩ = some (.slice (some ⟨g,0,none⟩) 1 1) /\ W.cell? ⟨t,2,none⟩ = some (.slice none 0 0)) (by kernel_rfl) ?_ (fun hHeld => ?_)
 ·rw [<- hwd]; exact HT.out _ (Below.refl _ _)
 rw [<- hwd] at hHeld ⊢
 clear hwd
 refine qtk 1 4 ?_
 simp only [qz0,qz1]
 refine qtk 2 5 ?_
 simp only [qz0,qz1]
 refine qtk 3 6 ?_
 simp only [qz0,qz1]
 refine qtk 4 7 ?_
 simp only [qz0,qz1]
 refine qtk 7 10 ?_
 simp only [qz0,qz1]
 refine qtk 8 11 ?_
 simp only [qz0,qz1]
 refine qtk 9 12 ?_
 simp only [qz0,qz1]
 refine qtk 10 13 ?_
 simp only [qz0,qz1]
 refine qtk 13 16 ?_
 simp only [qz0,qz1]
 refine qtk 14 17 ?_
 simp only [qz0,qz1]
 refine qtk 15 18 ?_
 simp only [qz0,qz1]
 refine qtk 16 19 ?_
 simp only [qz0,qz1]
 refine heldB_three 0 6 12 (by kernel_rfl) rfl rfl rfl (fun K hK => ?_) (fun K hK => ?_) (fun K hK => ?_)
 ·go_simp
  obtain ⟨v1,hw⟩:=qnm (wd.alloc (.cells #[] TNdR))
  obtain ⟨g1,hg⟩:=qnm wd.heap.size
  have HI1:=qh (HI0.out.new TNdR hw hg)
  have hHeld:=HT.out v1 HI1.out.bel
  rw [<- hw,<- hg]
  clear hw hg
  refine hK.out _ _ (fun _ => hHeld) ?_
  clear hK K
  refine heldB_three 5 6 12 (by kernel_rfl) rfl rfl rfl (fun K hK => ?_) (fun K hK => ?_) (fun K hK => ?_)
  ·obtain ⟨a2,c2,v2,hr,hgb⟩:=app_nd (HI1.out.pl (g1,TNdR) (by simp)).2 ((HI1.out.bel.block a (ltH HT0.out.2.1)).trans HT0.out.2.1)
   have HI2:=qh (HI1.out.app (l':=[]) (g:=g1) (T:=TNdR) (by simp) hgb (by simp))
   have hHeld:=HT.out v2 HI2.out.bel
   refine step_append_run (by rfl) _ _ TNds rfl _ _ _ (by rfl) (by rfl) hr ?_
   clear hr hgb
   go_wp2_with fail
   refine hK.out _ _ (fun _ => hHeld) ?_
   clear hK K
   refine heldB_two 6 12 (by kernel_rfl) rfl rfl (fun K hK => ?_) (fun K hK => ?_)
   ·go_simp
    obtain ⟨v3,hw⟩:=qnm (v2.alloc (.cells #[] TBs))
    obtain ⟨g3,hg⟩:=qnm v2.heap.size
    have HI3:=qh (HI2.out.new TBs hw hg)
    have hHeld:=HT.out v3 HI3.out.bel
    rw [<- hw,<- hg]
    clear hw hg
    refine hK.out _ _ (fun _ => hHeld) ?_
    clear hK K
    refine heldB_two 11 12 (by kernel_rfl) rfl rfl (fun K hK => ?_) (fun K hK => ?_)
    ·obtain ⟨a4,c4,v4,hr,hgb⟩:=app_bs (HI3.out.pl (g3,TBs) (by simp)).2 ((HI3.out.bel.block g (ltH HT0.out.2.2)).trans HT0.out.2.2)
     have HI4:=qh (HI3.out.app (l':=[]) (g:=g3) (T:=TBs) (by simp) hgb (by simp))
     have hHeld:=HT.out v4 HI4.out.bel
     refine step_append_run (by rfl) _ _ TBss rfl _ _ _ (by rfl) (by rfl) hr ?_
     clear hr hgb
     go_wp2_with fail
     refine hK.out _ _ (fun _ => hHeld) ?_
     clear hK K
     refine qone 12 fun K hK => ?_
     go_simp
     obtain ⟨v5,hw⟩:=qnm (v4.alloc (.cells #[] TEnt))
     obtain ⟨g5,hg⟩:=qnm v4.heap.size
     have HI5:=qh (HI4.out.new TEnt hw hg)
     have hHeld:=HT.out v5 HI5.out.bel
     rw [<- hw,<- hg]
     clear hw hg
     refine hK.out _ _ (fun _ => hHeld) ?_
     clear hK K
     refine qone 17 fun K hK => ?_
     have hr:=app_none (W:=v5) (HI5.out.pl (g5,TEnt) (by simp)).2
     refine step_append_run (by rfl) _ _ TEnts rfl _ _ _ (by rfl) (by rfl) hr ?_
     clear hr
     go_wp2_with fail
     refine hK.out _ _ (fun _ => hHeld) ?_
     clear hK K
     refine qtk 18 21 ?_
     simp only [qz0,qz1]
     refine qone 19 fun K hK => ?_
     go_simp
     refine hK.out _ _ (fun _ => HT.out _ (HI5.out.bel.alloc (HI5.out.bel.size) _)) ?_
     clear hK K
     refine qfr 20 2 ?_
     simp only [qz0,qz1]
     refine qdon ?_
     go_wp2_with fail
     go_ret
     exact ⟨⟨_,rfl⟩,HB.out.1.trans ((HI5.out.bel.alloc HI5.out.bel.size _).mono HB.out.1.size)⟩
    ·go_simp
     obtain ⟨v4,hw⟩:=qnm (v3.alloc (.cells #[] TEnt))
     obtain ⟨g4,hg⟩:=qnm v3.heap.size
     have HI4:=qh (HI3.out.new TEnt hw hg)
     have hHeld:=HT.out v4 HI4.out.bel
     rw [<- hw,<- hg]
     clear hw hg
     refine hK.out _ _ (fun _ => hHeld) ?_
     clear hK K
     refine qone 11 fun K hK => ?_
     obtain ⟨a5,c5,v5,hr,hgb⟩:=app_bs (HI4.out.pl (g3,TBs) (by simp)).2 ((HI4.out.bel.block g (ltH HT0.out.2.2)).trans HT0.out.2.2)
     have HI5:=qh (HI4.out.app (l':=[(g4,TEnt)]) (g:=g3) (T:=TBs) (by simp) hgb (by intro p hp; simp only [List.mem_cons,List.not_mem_nil,or_false] at hp; rcases hp with rfl <;> exact ⟨by simp,by dsimp only; decide⟩))
     have hHeld:=HT.out v5 HI5.out.bel
     refine step_append_run (by rfl) _ _ TBss rfl _ _ _ (by rfl) (by rfl) hr ?_
     clear hr hgb
     go_wp2_with fail
     refine hK.out _ _ (fun _ => hHeld) ?_
     clear hK K
     refine qone 17 fun K hK => ?_
     have hr:=app_none (W:=v5) (HI5.out.pl (g4,TEnt) (by simp)).2
     refine step_append_run (by rfl) _ _ TEnts rfl _ _ _ (by rfl) (by rfl) hr ?_
     clear hr
     go_wp2_with fail
     refine hK.out _ _ (fun _ => hHeld) ?_
     clear hK K
     refine qtk 18 21 ?_
     simp only [qz0,qz1]
     refine qone 19 fun K hK => ?_
     go_simp
     refine hK.out _ _ (fun _ => HT.out _ (HI5.out.bel.alloc (HI5.out.bel.size) _)) ?_
     clear hK K
     refine qfr 20 2 ?_
     simp only [qz0,qz1]
     refine qdon ?_
     go_wp2_with fail
     go_ret
     exact ⟨⟨_,rfl⟩,HB.out.1.trans ((HI5.out.bel.alloc HI5.out.bel.size _).mono HB.out.1.size)⟩
   ·go_simp
    obtain ⟨v3,hw⟩:=qnm (v2.alloc (.cells #[] TEnt))
    obtain ⟨g3,hg⟩:=qnm v2.heap.size
    have HI3:=qh (HI2.out.new TEnt hw hg)
    have hHeld:=HT.out v3 HI3.out.bel
    rw [<- hw,<- hg]
    clear hw hg
    refine hK.out _ _ (fun _ => hHeld) ?_
    clear hK K
    refine qone 6 fun K hK => ?_
    go_simp
    obtain ⟨v4,hw⟩:=qnm (v3.alloc (.cells #[] TBs))
    obtain ⟨g4,hg⟩:=qnm v3.heap.size
    have HI4:=qh (HI3.out.new TBs hw hg)
    have hHeld:=HT.out v4 HI4.out.bel
    rw [<- hw,<- hg]
    clear hw hg
    refine hK.out _ _ (fun _ => hHeld) ?_
    clear hK K
    refine qone 11 fun K hK => ?_
    obtain ⟨a5,c5,v5,hr,hgb⟩:=app_bs (HI4.out.pl (g4,TBs) (by simp)).2 ((HI4.out.bel.block g (ltH HT0.out.2.2)).trans HT0.out.2.2)
    have HI5:=qh (HI4.out.app (l':=[(g3,TEnt)]) (g:=g4) (T:=TBs) (by simp) hgb (by intro p hp; simp only [List.mem_cons,List.not_mem_nil,or_false] at hp; rcases hp with rfl <;> exact ⟨by simp,by dsimp only; decide⟩))
    have hHeld:=HT.out v5 HI5.out.bel
    refine step_append_run (by rfl) _ _ TBss rfl _ _ _ (by rfl) (by rfl) hr ?_
    clear hr hgb
    go_wp2_with fail
    refine hK.out _ _ (fun _ => hHeld) ?_
    clear hK K
    refine qone 17 fun K hK => ?_
    have hr:=app_none (W:=v5) (HI5.out.pl (g3,TEnt) (by simp)).2
    refine step_append_run (by rfl) _ _ TEnts rfl _ _ _ (by rfl) (by rfl) hr ?_
    clear hr
    go_wp2_with fail
    refine hK.out _ _ (fun _ => hHeld) ?_
    clear hK K
    refine qtk 18 21 ?_
    simp only [qz0,qz1]
    refine qone 19 fun K hK => ?_
    go_simp
    refine hK.out _ _ (fun _ => HT.out _ (HI5.out.bel.alloc (HI5.out.bel.size) _)) ?_
    clear hK K
    refine qfr 20 2 ?_
    simp only [qz0,qz1]
    refine qdon ?_
    go_wp2_with fail
    go_ret
    exact ⟨⟨_,rfl⟩,HB.out.1.trans ((HI5.out.bel.alloc HI5.out.bel.size _).mono HB.out.1.size)⟩
  ·go_simp
   obtain ⟨v2,hw⟩:=qnm (v1.alloc (.cells #[] TBs))
   obtain ⟨g2,hg⟩:=qnm v1.heap.size
   have HI2:=qh (HI1.out.new TBs hw hg)
   have hHeld:=HT.out v2 HI2.out.bel
   rw [<- hw,<- hg]
   clear hw hg
   refine hK.out _ _ (fun _ => hHeld) ?_
   clear hK K
   refine heldB_two 5 12 (by kernel_rfl) rfl rfl (fun K hK => ?_) (fun K hK => ?_)
   ·obtain ⟨a3,c3,v3,hr,hgb⟩:=app_nd (HI2.out.pl (g1,TNdR) (by simp)).2 ((HI2.out.bel.block a (ltH HT0.out.2.1)).trans HT0.out.2.1)
    have HI3:=qh (HI2.out.app (l':=[(g2,TBs)]) (g:=g1) (T:=TNdR) (by simp) hgb (by intro p hp; simp only [List.mem_cons,List.not_mem_nil,or_false] at hp; rcases hp with rfl <;> exact ⟨by simp,by dsimp only; decide⟩))
    have hHeld:=HT.out v3 HI3.out.bel
    refine step_append_run (by rfl) _ _ TNds rfl _ _ _ (by rfl) (by rfl) hr ?_
    clear hr hgb
    go_wp2_with fail
    refine hK.out _ _ (fun _ => hHeld) ?_
    clear hK K
    refine heldB_two 11 12 (by kernel_rfl) rfl rfl (fun K hK => ?_) (fun K hK => ?_)
    ·obtain ⟨a4,c4,v4,hr,hgb⟩:=app_bs (HI3.out.pl (g2,TBs) (by simp)).2 ((HI3.out.bel.block g (ltH HT0.out.2.2)).trans HT0.out.2.2)
     have HI4:=qh (HI3.out.app (l':=[]) (g:=g2) (T:=TBs) (by simp) hgb (by simp))
     have hHeld:=HT.out v4 HI4.out.bel
     refine step_append_run (by rfl) _ _ TBss rfl _ _ _ (by rfl) (by rfl) hr ?_
     clear hr hgb
     go_wp2_with fail
     refine hK.out _ _ (fun _ => hHeld) ?_
     clear hK K
     refine qone 12 fun K hK => ?_
     go_simp
     obtain ⟨v5,hw⟩:=qnm (v4.alloc (.cells #[] TEnt))
     obtain ⟨g5,hg⟩:=qnm v4.heap.size
     have HI5:=qh (HI4.out.new TEnt hw hg)
     have hHeld:=HT.out v5 HI5.out.bel
     rw [<- hw,<- hg]
     clear hw hg
     refine hK.out _ _ (fun _ => hHeld) ?_
     clear hK K
     refine qone 17 fun K hK => ?_
     have hr:=app_none (W:=v5) (HI5.out.pl (g5,TEnt) (by simp)).2
     refine step_append_run (by rfl) _ _ TEnts rfl _ _ _ (by rfl) (by rfl) hr ?_
     clear hr
     go_wp2_with fail
     refine hK.out _ _ (fun _ => hHeld) ?_
     clear hK K
     refine qtk 18 21 ?_
     simp only [qz0,qz1]
     refine qone 19 fun K hK => ?_
     go_simp
     refine hK.out _ _ (fun _ => HT.out _ (HI5.out.bel.alloc (HI5.out.bel.size) _)) ?_
     clear hK K
     refine qfr 20 2 ?_
     simp only [qz0,qz1]
     refine qdon ?_
     go_wp2_with fail
     go_ret
     exact ⟨⟨_,rfl⟩,HB.out.1.trans ((HI5.out.bel.alloc HI5.out.bel.size _).mono HB.out.1.size)⟩
    ·go_simp
     obtain ⟨v4,hw⟩:=qnm (v3.alloc (.cells #[] TEnt))
     obtain ⟨g4,hg⟩:=qnm v3.heap.size
     have HI4:=qh (HI3.out.new TEnt hw hg)
     have hHeld:=HT.out v4 HI4.out.bel
     rw [<- hw,<- hg]
     clear hw hg
     refine hK.out _ _ (fun _ => hHeld) ?_
     clear hK K
     refine qone 11 fun K hK => ?_
     obtain ⟨a5,c5,v5,hr,hgb⟩:=app_bs (HI4.out.pl (g2,TBs) (by simp)).2 ((HI4.out.bel.block g (ltH HT0.out.2.2)).trans HT0.out.2.2)
     have HI5:=qh (HI4.out.app (l':=[(g4,TEnt)]) (g:=g2) (T:=TBs) (by simp) hgb (by intro p hp; simp only [List.mem_cons,List.not_mem_nil,or_false] at hp; rcases hp with rfl <;> exact ⟨by simp,by dsimp only; decide⟩))
     have hHeld:=HT.out v5 HI5.out.bel
     refine step_append_run (by rfl) _ _ TBss rfl _ _ _ (by rfl) (by rfl) hr ?_
     clear hr hgb
     go_wp2_with fail
     refine hK.out _ _ (fun _ => hHeld) ?_
     clear hK K
     refine qone 17 fun K hK => ?_
     have hr:=app_none (W:=v5) (HI5.out.pl (g4,TEnt) (by simp)).2
     refine step_append_run (by rfl) _ _ TEnts rfl _ _ _ (by rfl) (by rfl) hr ?_
     clear hr
     go_wp2_with fail
     refine hK.out _ _ (fun _ => hHeld) ?_
     clear hK K
     refine qtk 18 21 ?_
     simp only [qz0,qz1]
     refine qone 19 fun K hK => ?_
     go_simp
     refine hK.out _ _ (fun _ => HT.out _ (HI5.out.bel.alloc (HI5.out.bel.size) _)) ?_
     clear hK K
     refine qfr 20 2 ?_
     simp only [qz0,qz1]
     refine qdon ?_
     go_wp2_with fail
     go_ret
     exact ⟨⟨_,rfl⟩,HB.out.1.trans ((HI5.out.bel.alloc HI5.out.bel.size _).mono HB.out.1.size)⟩
   ·go_simp
    obtain ⟨v3,hw⟩:=qnm (v2.alloc (.cells #[] TEnt))
    obtain ⟨g3,hg⟩:=qnm v2.heap.size
    have HI3:=qh (HI2.out.new TEnt hw hg)
    have hHeld:=HT.out v3 HI3.out.bel
    rw [<- hw,<- hg]
    clear hw hg
    refine hK.out _ _ (fun _ => hHeld) ?_
    clear hK K
    refine qone 5 fun K hK => ?_
    obtain ⟨a4,c4,v4,hr,hgb⟩:=app_nd (HI3.out.pl (g1,TNdR) (by simp)).2 ((HI3.out.bel.block a (ltH HT0.out.2.1)).trans HT0.out.2.1)
    have HI4:=qh (HI3.out.app (l':=[(g3,TEnt),(g2,TBs)]) (g:=g1) (T:=TNdR) (by simp) hgb (by intro p hp; simp only [List.mem_cons,List.not_mem_nil,or_false] at hp; rcases hp with rfl | rfl <;> exact ⟨by simp,by dsimp only; decide⟩))
    have hHeld:=HT.out v4 HI4.out.bel
    refine step_append_run (by rfl) _ _ TNds rfl _ _ _ (by rfl) (by rfl) hr ?_
    clear hr hgb
    go_wp2_with fail
    refine hK.out _ _ (fun _ => hHeld) ?_
    clear hK K
    refine qone 11 fun K hK => ?_
    obtain ⟨a5,c5,v5,hr,hgb⟩:=app_bs (HI4.out.pl (g2,TBs) (by simp)).2 ((HI4.out.bel.block g (ltH HT0.out.2.2)).trans HT0.out.2.2)
    have HI5:=qh (HI4.out.app (l':=[(g3,TEnt)]) (g:=g2) (T:=TBs) (by simp) hgb (by intro p hp; simp only [List.mem_cons,List.not_mem_nil,or_false] at hp; rcases hp with rfl <;> exact ⟨by simp,by dsimp only; decide⟩))
    have hHeld:=HT.out v5 HI5.out.bel
    refine step_append_run (by rfl) _ _ TBss rfl _ _ _ (by rfl) (by rfl) hr ?_
    clear hr hgb
    go_wp2_with fail
    refine hK.out _ _ (fun _ => hHeld) ?_
    clear hK K
    refine qone 17 fun K hK => ?_
    have hr:=app_none (W:=v5) (HI5.out.pl (g3,TEnt) (by simp)).2
    refine step_append_run (by rfl) _ _ TEnts rfl _ _ _ (by rfl) (by rfl) hr ?_
    clear hr
    go_wp2_with fail
    refine hK.out _ _ (fun _ => hHeld) ?_
    clear hK K
    refine qtk 18 21 ?_
    simp only [qz0,qz1]
    refine qone 19 fun K hK => ?_
    go_simp
    refine hK.out _ _ (fun _ => HT.out _ (HI5.out.bel.alloc (HI5.out.bel.size) _)) ?_
    clear hK K
    refine qfr 20 2 ?_
    simp only [qz0,qz1]
    refine qdon ?_
    go_wp2_with fail
    go_ret
    exact ⟨⟨_,rfl⟩,HB.out.1.trans ((HI5.out.bel.alloc HI5.out.bel.size _).mono HB.out.1.size)⟩
  ·go_simp
   obtain ⟨v2,hw⟩:=qnm (v1.alloc (.cells #[] TEnt))
   obtain ⟨g2,hg⟩:=qnm v1.heap.size
   have HI2:=qh (HI1.out.new TEnt hw hg)
   have hHeld:=HT.out v2 HI2.out.bel
   rw [<- hw,<- hg]
   clear hw hg
   refine hK.out _ _ (fun _ => hHeld) ?_
   clear hK K
   refine heldB_two 5 6 (by kernel_rfl) rfl rfl (fun K hK => ?_) (fun K hK => ?_)
   ·obtain ⟨a3,c3,v3,hr,hgb⟩:=app_nd (HI2.out.pl (g1,TNdR) (by simp)).2 ((HI2.out.bel.block a (ltH HT0.out.2.1)).trans HT0.out.2.1)
    have HI3:=qh (HI2.out.app (l':=[(g2,TEnt)]) (g:=g1) (T:=TNdR) (by simp) hgb (by intro p hp; simp only [List.mem_cons,List.not_mem_nil,or_false] at hp; rcases hp with rfl <;> exact ⟨by simp,by dsimp only; decide⟩))
    have hHeld:=HT.out v3 HI3.out.bel
    refine step_append_run (by rfl) _ _ TNds rfl _ _ _ (by rfl) (by rfl) hr ?_
    clear hr hgb
    go_wp2_with fail
    refine hK.out _ _ (fun _ => hHeld) ?_
    clear hK K
    refine qone 6 fun K hK => ?_
    go_simp
    obtain ⟨v4,hw⟩:=qnm (v3.alloc (.cells #[] TBs))
    obtain ⟨g4,hg⟩:=qnm v3.heap.size
    have HI4:=qh (HI3.out.new TBs hw hg)
    have hHeld:=HT.out v4 HI4.out.bel
    rw [<- hw,<- hg]
    clear hw hg
    refine hK.out _ _ (fun _ => hHeld) ?_
    clear hK K
    refine qone 11 fun K hK => ?_
    obtain ⟨a5,c5,v5,hr,hgb⟩:=app_bs (HI4.out.pl (g4,TBs) (by simp)).2 ((HI4.out.bel.block g (ltH HT0.out.2.2)).trans HT0.out.2.2)
    have HI5:=qh (HI4.out.app (l':=[(g2,TEnt)]) (g:=g4) (T:=TBs) (by simp) hgb (by intro p hp; simp only [List.mem_cons,List.not_mem_nil,or_false] at hp; rcases hp with rfl <;> exact ⟨by simp,by dsimp only; decide⟩))
    have hHeld:=HT.out v5 HI5.out.bel
    refine step_append_run (by rfl) _ _ TBss rfl _ _ _ (by rfl) (by rfl) hr ?_
    clear hr hgb
    go_wp2_with fail
    refine hK.out _ _ (fun _ => hHeld) ?_
    clear hK K
    refine qone 17 fun K hK => ?_
    have hr:=app_none (W:=v5) (HI5.out.pl (g2,TEnt) (by simp)).2
    refine step_append_run (by rfl) _ _ TEnts rfl _ _ _ (by rfl) (by rfl) hr ?_
    clear hr
    go_wp2_with fail
    refine hK.out _ _ (fun _ => hHeld) ?_
    clear hK K
    refine qtk 18 21 ?_
    simp only [qz0,qz1]
    refine qone 19 fun K hK => ?_
    go_simp
    refine hK.out _ _ (fun _ => HT.out _ (HI5.out.bel.alloc (HI5.out.bel.size) _)) ?_
    clear hK K
    refine qfr 20 2 ?_
    simp only [qz0,qz1]
    refine qdon ?_
    go_wp2_with fail
    go_ret
    exact ⟨⟨_,rfl⟩,HB.out.1.trans ((HI5.out.bel.alloc HI5.out.bel.size _).mono HB.out.1.size)⟩
   ·go_simp
    obtain ⟨v3,hw⟩:=qnm (v2.alloc (.cells #[] TBs))
    obtain ⟨g3,hg⟩:=qnm v2.heap.size
    have HI3:=qh (HI2.out.new TBs hw hg)
    have hHeld:=HT.out v3 HI3.out.bel
    rw [<- hw,<- hg]
    clear hw hg
    refine hK.out _ _ (fun _ => hHeld) ?_
    clear hK K
    refine qone 5 fun K hK => ?_
    obtain ⟨a4,c4,v4,hr,hgb⟩:=app_nd (HI3.out.pl (g1,TNdR) (by simp)).2 ((HI3.out.bel.block a (ltH HT0.out.2.1)).trans HT0.out.2.1)
    have HI4:=qh (HI3.out.app (l':=[(g3,TBs),(g2,TEnt)]) (g:=g1) (T:=TNdR) (by simp) hgb (by intro p hp; simp only [List.mem_cons,List.not_mem_nil,or_false] at hp; rcases hp with rfl | rfl <;> exact ⟨by simp,by dsimp only; decide⟩))
    have hHeld:=HT.out v4 HI4.out.bel
    refine step_append_run (by rfl) _ _ TNds rfl _ _ _ (by rfl) (by rfl) hr ?_
    clear hr hgb
    go_wp2_with fail
    refine hK.out _ _ (fun _ => hHeld) ?_
    clear hK K
    refine qone 11 fun K hK => ?_
    obtain ⟨a5,c5,v5,hr,hgb⟩:=app_bs (HI4.out.pl (g3,TBs) (by simp)).2 ((HI4.out.bel.block g (ltH HT0.out.2.2)).trans HT0.out.2.2)
    have HI5:=qh (HI4.out.app (l':=[(g2,TEnt)]) (g:=g3) (T:=TBs) (by simp) hgb (by intro p hp; simp only [List.mem_cons,List.not_mem_nil,or_false] at hp; rcases hp with rfl <;> exact ⟨by simp,by dsimp only; decide⟩))
    have hHeld:=HT.out v5 HI5.out.bel
    refine step_append_run (by rfl) _ _ TBss rfl _ _ _ (by rfl) (by rfl) hr ?_
    clear hr hgb
    go_wp2_with fail
    refine hK.out _ _ (fun _ => hHeld) ?_
    clear hK K
    refine qone 17 fun K hK => ?_
    have hr:=app_none (W:=v5) (HI5.out.pl (g2,TEnt) (by simp)).2
    refine step_append_run (by rfl) _ _ TEnts rfl _ _ _ (by rfl) (by rfl) hr ?_
    clear hr
    go_wp2_with fail
    refine hK.out _ _ (fun _ => hHeld) ?_
    clear hK K
    refine qtk 18 21 ?_
    simp only [qz0,qz1]
    refine qone 19 fun K hK => ?_
    go_simp
    refine hK.out _ _ (fun _ => HT.out _ (HI5.out.bel.alloc (HI5.out.bel.size) _)) ?_
    clear hK K
    refine qfr 20 2 ?_
    simp only [qz0,qz1]
    refine qdon ?_
    go_wp2_with fail
    go_ret
    exact ⟨⟨_,rfl⟩,HB.out.1.trans ((HI5.out.bel.alloc HI5.out.bel.size _).mono HB.out.1.size)⟩
 ·go_simp
  obtain ⟨v1,hw⟩:=qnm (wd.alloc (.cells #[] TBs))
  obtain ⟨g1,hg⟩:=qnm wd.heap.size
  have HI1:=qh (HI0.out.new TBs hw hg)
  have hHeld:=HT.out v1 HI1.out.bel
  rw [<- hw,<- hg]
  clear hw hg
  refine hK.out _ _ (fun _ => hHeld) ?_
  clear hK K
  refine heldB_two 0 12 (by kernel_rfl) rfl rfl (fun K hK => ?_) (fun K hK => ?_)
  ·go_simp
   obtain ⟨v2,hw⟩:=qnm (v1.alloc (.cells #[] TNdR))
   obtain ⟨g2,hg⟩:=qnm v1.heap.size
   have HI2:=qh (HI1.out.new TNdR hw hg)
   have hHeld:=HT.out v2 HI2.out.bel
   rw [<- hw,<- hg]
   clear hw hg
   refine hK.out _ _ (fun _ => hHeld) ?_
   clear hK K
   refine heldB_two 5 12 (by kernel_rfl) rfl rfl (fun K hK => ?_) (fun K hK => ?_)
   ·obtain ⟨a3,c3,v3,hr,hgb⟩:=app_nd (HI2.out.pl (g2,TNdR) (by simp)).2 ((HI2.out.bel.block a (ltH HT0.out.2.1)).trans HT0.out.2.1)
    have HI3:=qh (HI2.out.app (l':=[(g1,TBs)]) (g:=g2) (T:=TNdR) (by simp) hgb (by intro p hp; simp only [List.mem_cons,List.not_mem_nil,or_false] at hp; rcases hp with rfl <;> exact ⟨by simp,by dsimp only; decide⟩))
    have hHeld:=HT.out v3 HI3.out.bel
    refine step_append_run (by rfl) _ _ TNds rfl _ _ _ (by rfl) (by rfl) hr ?_
    clear hr hgb
    go_wp2_with fail
    refine hK.out _ _ (fun _ => hHeld) ?_
    clear hK K
    refine heldB_two 11 12 (by kernel_rfl) rfl rfl (fun K hK => ?_) (fun K hK => ?_)
    ·obtain ⟨a4,c4,v4,hr,hgb⟩:=app_bs (HI3.out.pl (g1,TBs) (by simp)).2 ((HI3.out.bel.block g (ltH HT0.out.2.2)).trans HT0.out.2.2)
     have HI4:=qh (HI3.out.app (l':=[]) (g:=g1) (T:=TBs) (by simp) hgb (by simp))
     have hHeld:=HT.out v4 HI4.out.bel
     refine step_append_run (by rfl) _ _ TBss rfl _ _ _ (by rfl) (by rfl) hr ?_
     clear hr hgb
     go_wp2_with fail
     refine hK.out _ _ (fun _ => hHeld) ?_
     clear hK K
     refine qone 12 fun K hK => ?_
     go_simp
     obtain ⟨v5,hw⟩:=qnm (v4.alloc (.cells #[] TEnt))
     obtain ⟨g5,hg⟩:=qnm v4.heap.size
     have HI5:=qh (HI4.out.new TEnt hw hg)
     have hHeld:=HT.out v5 HI5.out.bel
     rw [<- hw,<- hg]
     clear hw hg
     refine hK.out _ _ (fun _ => hHeld) ?_
     clear hK K
     refine qone 17 fun K hK => ?_
     have hr:=app_none (W:=v5) (HI5.out.pl (g5,TEnt) (by simp)).2
     refine step_append_run (by rfl) _ _ TEnts rfl _ _ _ (by rfl) (by rfl) hr ?_
     clear hr
     go_wp2_with fail
     refine hK.out _ _ (fun _ => hHeld) ?_
     clear hK K
     refine qtk 18 21 ?_
     simp only [qz0,qz1]
     refine qone 19 fun K hK => ?_
     go_simp
     refine hK.out _ _ (fun _ => HT.out _ (HI5.out.bel.alloc (HI5.out.bel.size) _)) ?_
     clear hK K
     refine qfr 20 2 ?_
     simp only [qz0,qz1]
     refine qdon ?_
     go_wp2_with fail
     go_ret
     exact ⟨⟨_,rfl⟩,HB.out.1.trans ((HI5.out.bel.alloc HI5.out.bel.size _).mono HB.out.1.size)⟩
    ·go_simp
     obtain ⟨v4,hw⟩:=qnm (v3.alloc (.cells #[] TEnt))
     obtain ⟨g4,hg⟩:=qnm v3.heap.size
     have HI4:=qh (HI3.out.new TEnt hw hg)
     have hHeld:=HT.out v4 HI4.out.bel
     rw [<- hw,<- hg]
     clear hw hg
     refine hK.out _ _ (fun _ => hHeld) ?_
     clear hK K
     refine qone 11 fun K hK => ?_
     obtain ⟨a5,c5,v5,hr,hgb⟩:=app_bs (HI4.out.pl (g1,TBs) (by simp)).2 ((HI4.out.bel.block g (ltH HT0.out.2.2)).trans HT0.out.2.2)
     have HI5:=qh (HI4.out.app (l':=[(g4,TEnt)]) (g:=g1) (T:=TBs) (by simp) hgb (by intro p hp; simp only [List.mem_cons,List.not_mem_nil,or_false] at hp; rcases hp with rfl <;> exact ⟨by simp,by dsimp only; decide⟩))
     have hHeld:=HT.out v5 HI5.out.bel
     refine step_append_run (by rfl) _ _ TBss rfl _ _ _ (by rfl) (by rfl) hr ?_
     clear hr hgb
     go_wp2_with fail
     refine hK.out _ _ (fun _ => hHeld) ?_
     clear hK K
     refine qone 17 fun K hK => ?_
     have hr:=app_none (W:=v5) (HI5.out.pl (g4,TEnt) (by simp)).2
     refine step_append_run (by rfl) _ _ TEnts rfl _ _ _ (by rfl) (by rfl) hr ?_
     clear hr
     go_wp2_with fail
     refine hK.out _ _ (fun _ => hHeld) ?_
     clear hK K
     refine qtk 18 21 ?_
     simp only [qz0,qz1]
     refine qone 19 fun K hK => ?_
     go_simp
     refine hK.out _ _ (fun _ => HT.out _ (HI5.out.bel.alloc (HI5.out.bel.size) _)) ?_
     clear hK K
     refine qfr 20 2 ?_
     simp only [qz0,qz1]
     refine qdon ?_
     go_wp2_with fail
     go_ret
     exact ⟨⟨_,rfl⟩,HB.out.1.trans ((HI5.out.bel.alloc HI5.out.bel.size _).mono HB.out.1.size)⟩
   ·go_simp
    obtain ⟨v3,hw⟩:=qnm (v2.alloc (.cells #[] TEnt))
    obtain ⟨g3,hg⟩:=qnm v2.heap.size
    have HI3:=qh (HI2.out.new TEnt hw hg)
    have hHeld:=HT.out v3 HI3.out.bel
    rw [<- hw,<- hg]
    clear hw hg
    refine hK.out _ _ (fun _ => hHeld) ?_
    clear hK K
    refine qone 5 fun K hK => ?_
    obtain ⟨a4,c4,v4,hr,hgb⟩:=app_nd (HI3.out.pl (g2,TNdR) (by simp)).2 ((HI3.out.bel.block a (ltH HT0.out.2.1)).trans HT0.out.2.1)
    have HI4:=qh (HI3.out.app (l':=[(g3,TEnt),(g1,TBs)]) (g:=g2) (T:=TNdR) (by simp) hgb (by intro p hp; simp only [List.mem_cons,List.not_mem_nil,or_false] at hp; rcases hp with rfl | rfl <;> exact ⟨by simp,by dsimp only; decide⟩))
    have hHeld:=HT.out v4 HI4.out.bel
    refine step_append_run (by rfl) _ _ TNds rfl _ _ _ (by rfl) (by rfl) hr ?_
    clear hr hgb
    go_wp2_with fail
    refine hK.out _ _ (fun _ => hHeld) ?_
    clear hK K
    refine qone 11 fun K hK => ?_
    obtain ⟨a5,c5,v5,hr,hgb⟩:=app_bs (HI4.out.pl (g1,TBs) (by simp)).2 ((HI4.out.bel.block g (ltH HT0.out.2.2)).trans HT0.out.2.2)
    have HI5:=qh (HI4.out.app (l':=[(g3,TEnt)]) (g:=g1) (T:=TBs) (by simp) hgb (by intro p hp; simp only [List.mem_cons,List.not_mem_nil,or_false] at hp; rcases hp with rfl <;> exact ⟨by simp,by dsimp only; decide⟩))
    have hHeld:=HT.out v5 HI5.out.bel
    refine step_append_run (by rfl) _ _ TBss rfl _ _ _ (by rfl) (by rfl) hr ?_
    clear hr hgb
    go_wp2_with fail
    refine hK.out _ _ (fun _ => hHeld) ?_
    clear hK K
    refine qone 17 fun K hK => ?_
    have hr:=app_none (W:=v5) (HI5.out.pl (g3,TEnt) (by simp)).2
    refine step_append_run (by rfl) _ _ TEnts rfl _ _ _ (by rfl) (by rfl) hr ?_
    clear hr
    go_wp2_with fail
    refine hK.out _ _ (fun _ => hHeld) ?_
    clear hK K
    refine qtk 18 21 ?_
    simp only [qz0,qz1]
    refine qone 19 fun K hK => ?_
    go_simp
    refine hK.out _ _ (fun _ => HT.out _ (HI5.out.bel.alloc (HI5.out.bel.size) _)) ?_
    clear hK K
    refine qfr 20 2 ?_
    simp only [qz0,qz1]
    refine qdon ?_
    go_wp2_with fail
    go_ret
    exact ⟨⟨_,rfl⟩,HB.out.1.trans ((HI5.out.bel.alloc HI5.out.bel.size _).mono HB.out.1.size)⟩
  ·go_simp
   obtain ⟨v2,hw⟩:=qnm (v1.alloc (.cells #[] TEnt))
   obtain ⟨g2,hg⟩:=qnm v1.heap.size
   have HI2:=qh (HI1.out.new TEnt hw hg)
   have hHeld:=HT.out v2 HI2.out.bel
   rw [<- hw,<- hg]
   clear hw hg
   refine hK.out _ _ (fun _ => hHeld) ?_
   clear hK K
   refine qone 0 fun K hK => ?_
   go_simp
   obtain ⟨v3,hw⟩:=qnm (v2.alloc (.cells #[] TNdR))
   obtain ⟨g3,hg⟩:=qnm v2.heap.size
   have HI3:=qh (HI2.out.new TNdR hw hg)
   have hHeld:=HT.out v3 HI3.out.bel
   rw [<- hw,<- hg]
   clear hw hg
   refine hK.out _ _ (fun _ => hHeld) ?_
   clear hK K
   refine qone 5 fun K hK => ?_
   obtain ⟨a4,c4,v4,hr,hgb⟩:=app_nd (HI3.out.pl (g3,TNdR) (by simp)).2 ((HI3.out.bel.block a (ltH HT0.out.2.1)).trans HT0.out.2.1)
   have HI4:=qh (HI3.out.app (l':=[(g2,TEnt),(g1,TBs)]) (g:=g3) (T:=TNdR) (by simp) hgb (by intro p hp; simp only [List.mem_cons,List.not_mem_nil,or_false] at hp; rcases hp with rfl | rfl <;> exact ⟨by simp,by dsimp only; decide⟩))
   have hHeld:=HT.out v4 HI4.out.bel
   refine step_append_run (by rfl) _ _ TNds rfl _ _ _ (by rfl) (by rfl) hr ?_
   clear hr hgb
   go_wp2_with fail
   refine hK.out _ _ (fun _ => hHeld) ?_
   clear hK K
   refine qone 11 fun K hK => ?_
   obtain ⟨a5,c5,v5,hr,hgb⟩:=app_bs (HI4.out.pl (g1,TBs) (by simp)).2 ((HI4.out.bel.block g (ltH HT0.out.2.2)).trans HT0.out.2.2)
   have HI5:=qh (HI4.out.app (l':=[(g2,TEnt)]) (g:=g1) (T:=TBs) (by simp) hgb (by intro p hp; simp only [List.mem_cons,List.not_mem_nil,or_false] at hp; rcases hp with rfl <;> exact ⟨by simp,by dsimp only; decide⟩))
   have hHeld:=HT.out v5 HI5.out.bel
   refine step_append_run (by rfl) _ _ TBss rfl _ _ _ (by rfl) (by rfl) hr ?_
   clear hr hgb
   go_wp2_with fail
   refine hK.out _ _ (fun _ => hHeld) ?_
   clear hK K
   refine qone 17 fun K hK => ?_
   have hr:=app_none (W:=v5) (HI5.out.pl (g2,TEnt) (by simp)).2
   refine step_append_run (by rfl) _ _ TEnts rfl _ _ _ (by rfl) (by rfl) hr ?_
   clear hr
   go_wp2_with fail
   refine hK.out _ _ (fun _ => hHeld) ?_
   clear hK K
   refine qtk 18 21 ?_
   simp only [qz0,qz1]
   refine qone 19 fun K hK => ?_
   go_simp
   refine hK.out _ _ (fun _ => HT.out _ (HI5.out.bel.alloc (HI5.out.bel.size) _)) ?_
   clear hK K
   refine qfr 20 2 ?_
   simp only [qz0,qz1]
   refine qdon ?_
   go_wp2_with fail
   go_ret
   exact ⟨⟨_,rfl⟩,HB.out.1.trans ((HI5.out.bel.alloc HI5.out.bel.size _).mono HB.out.1.size)⟩
 ·go_simp
  obtain ⟨v1,hw⟩:=qnm (wd.alloc (.cells #[] TEnt))
  obtain ⟨g1,hg⟩:=qnm wd.heap.size
  have HI1:=qh (HI0.out.new TEnt hw hg)
  have hHeld:=HT.out v1 HI1.out.bel
  rw [<- hw,<- hg]
  clear hw hg
  refine hK.out _ _ (fun _ => hHeld) ?_
  clear hK K
  refine heldB_two 0 6 (by kernel_rfl) rfl rfl (fun K hK => ?_) (fun K hK => ?_)
  ·go_simp
   obtain ⟨v2,hw⟩:=qnm (v1.alloc (.cells #[] TNdR))
   obtain ⟨g2,hg⟩:=qnm v1.heap.size
   have HI2:=qh (HI1.out.new TNdR hw hg)
   have hHeld:=HT.out v2 HI2.out.bel
   rw [<- hw,<- hg]
   clear hw hg
   refine hK.out _ _ (fun _ => hHeld) ?_
   clear hK K
   refine heldB_two 5 6 (by kernel_rfl) rfl rfl (fun K hK => ?_) (fun K hK => ?_)
   ·obtain ⟨a3,c3,v3,hr,hgb⟩:=app_nd (HI2.out.pl (g2,TNdR) (by simp)).2 ((HI2.out.bel.block a (ltH HT0.out.2.1)).trans HT0.out.2.1)
    have HI3:=qh (HI2.out.app (l':=[(g1,TEnt)]) (g:=g2) (T:=TNdR) (by simp) hgb (by intro p hp; simp only [List.mem_cons,List.not_mem_nil,or_false] at hp; rcases hp with rfl <;> exact ⟨by simp,by dsimp only; decide⟩))
    have hHeld:=HT.out v3 HI3.out.bel
    refine step_append_run (by rfl) _ _ TNds rfl _ _ _ (by rfl) (by rfl) hr ?_
    clear hr hgb
    go_wp2_with fail
    refine hK.out _ _ (fun _ => hHeld) ?_
    clear hK K
    refine qone 6 fun K hK => ?_
    go_simp
    obtain ⟨v4,hw⟩:=qnm (v3.alloc (.cells #[] TBs))
    obtain ⟨g4,hg⟩:=qnm v3.heap.size
    have HI4:=qh (HI3.out.new TBs hw hg)
    have hHeld:=HT.out v4 HI4.out.bel
    rw [<- hw,<- hg]
    clear hw hg
    refine hK.out _ _ (fun _ => hHeld) ?_
    clear hK K
    refine qone 11 fun K hK => ?_
    obtain ⟨a5,c5,v5,hr,hgb⟩:=app_bs (HI4.out.pl (g4,TBs) (by simp)).2 ((HI4.out.bel.block g (ltH HT0.out.2.2)).trans HT0.out.2.2)
    have HI5:=qh (HI4.out.app (l':=[(g1,TEnt)]) (g:=g4) (T:=TBs) (by simp) hgb (by intro p hp; simp only [List.mem_cons,List.not_mem_nil,or_false] at hp; rcases hp with rfl <;> exact ⟨by simp,by dsimp only; decide⟩))
    have hHeld:=HT.out v5 HI5.out.bel
    refine step_append_run (by rfl) _ _ TBss rfl _ _ _ (by rfl) (by rfl) hr ?_
    clear hr hgb
    go_wp2_with fail
    refine hK.out _ _ (fun _ => hHeld) ?_
    clear hK K
    refine qone 17 fun K hK => ?_
    have hr:=app_none (W:=v5) (HI5.out.pl (g1,TEnt) (by simp)).2
    refine step_append_run (by rfl) _ _ TEnts rfl _ _ _ (by rfl) (by rfl) hr ?_
    clear hr
    go_wp2_with fail
    refine hK.out _ _ (fun _ => hHeld) ?_
    clear hK K
    refine qtk 18 21 ?_
    simp only [qz0,qz1]
    refine qone 19 fun K hK => ?_
    go_simp
    refine hK.out _ _ (fun _ => HT.out _ (HI5.out.bel.alloc (HI5.out.bel.size) _)) ?_
    clear hK K
    refine qfr 20 2 ?_
    simp only [qz0,qz1]
    refine qdon ?_
    go_wp2_with fail
    go_ret
    exact ⟨⟨_,rfl⟩,HB.out.1.trans ((HI5.out.bel.alloc HI5.out.bel.size _).mono HB.out.1.size)⟩
   ·go_simp
    obtain ⟨v3,hw⟩:=qnm (v2.alloc (.cells #[] TBs))
    obtain ⟨g3,hg⟩:=qnm v2.heap.size
    have HI3:=qh (HI2.out.new TBs hw hg)
    have hHeld:=HT.out v3 HI3.out.bel
    rw [<- hw,<- hg]
    clear hw hg
    refine hK.out _ _ (fun _ => hHeld) ?_
    clear hK K
    refine qone 5 fun K hK => ?_
    obtain ⟨a4,c4,v4,hr,hgb⟩:=app_nd (HI3.out.pl (g2,TNdR) (by simp)).2 ((HI3.out.bel.block a (ltH HT0.out.2.1)).trans HT0.out.2.1)
    have HI4:=qh (HI3.out.app (l':=[(g3,TBs),(g1,TEnt)]) (g:=g2) (T:=TNdR) (by simp) hgb (by intro p hp; simp only [List.mem_cons,List.not_mem_nil,or_false] at hp; rcases hp with rfl | rfl <;> exact ⟨by simp,by dsimp only; decide⟩))
    have hHeld:=HT.out v4 HI4.out.bel
    refine step_append_run (by rfl) _ _ TNds rfl _ _ _ (by rfl) (by rfl) hr ?_
    clear hr hgb
    go_wp2_with fail
    refine hK.out _ _ (fun _ => hHeld) ?_
    clear hK K
    refine qone 11 fun K hK => ?_
    obtain ⟨a5,c5,v5,hr,hgb⟩:=app_bs (HI4.out.pl (g3,TBs) (by simp)).2 ((HI4.out.bel.block g (ltH HT0.out.2.2)).trans HT0.out.2.2)
    have HI5:=qh (HI4.out.app (l':=[(g1,TEnt)]) (g:=g3) (T:=TBs) (by simp) hgb (by intro p hp; simp only [List.mem_cons,List.not_mem_nil,or_false] at hp; rcases hp with rfl <;> exact ⟨by simp,by dsimp only; decide⟩))
    have hHeld:=HT.out v5 HI5.out.bel
    refine step_append_run (by rfl) _ _ TBss rfl _ _ _ (by rfl) (by rfl) hr ?_
    clear hr hgb
    go_wp2_with fail
    refine hK.out _ _ (fun _ => hHeld) ?_
    clear hK K
    refine qone 17 fun K hK => ?_
    have hr:=app_none (W:=v5) (HI5.out.pl (g1,TEnt) (by simp)).2
    refine step_append_run (by rfl) _ _ TEnts rfl _ _ _ (by rfl) (by rfl) hr ?_
    clear hr
    go_wp2_with fail
    refine hK.out _ _ (fun _ => hHeld) ?_
    clear hK K
    refine qtk 18 21 ?_
    simp only [qz0,qz1]
    refine qone 19 fun K hK => ?_
    go_simp
    refine hK.out _ _ (fun _ => HT.out _ (HI5.out.bel.alloc (HI5.out.bel.size) _)) ?_
    clear hK K
    refine qfr 20 2 ?_
    simp only [qz0,qz1]
    refine qdon ?_
    go_wp2_with fail
    go_ret
    exact ⟨⟨_,rfl⟩,HB.out.1.trans ((HI5.out.bel.alloc HI5.out.bel.size _).mono HB.out.1.size)⟩
  ·go_simp
   obtain ⟨v2,hw⟩:=qnm (v1.alloc (.cells #[] TBs))
   obtain ⟨g2,hg⟩:=qnm v1.heap.size
   have HI2:=qh (HI1.out.new TBs hw hg)
   have hHeld:=HT.out v2 HI2.out.bel
   rw [<- hw,<- hg]
   clear hw hg
   refine hK.out _ _ (fun _ => hHeld) ?_
   clear hK K
   refine qone 0 fun K hK => ?_
   go_simp
   obtain ⟨v3,hw⟩:=qnm (v2.alloc (.cells #[] TNdR))
   obtain ⟨g3,hg⟩:=qnm v2.heap.size
   have HI3:=qh (HI2.out.new TNdR hw hg)
   have hHeld:=HT.out v3 HI3.out.bel
   rw [<- hw,<- hg]
   clear hw hg
   refine hK.out _ _ (fun _ => hHeld) ?_
   clear hK K
   refine qone 5 fun K hK => ?_
   obtain ⟨a4,c4,v4,hr,hgb⟩:=app_nd (HI3.out.pl (g3,TNdR) (by simp)).2 ((HI3.out.bel.block a (ltH HT0.out.2.1)).trans HT0.out.2.1)
   have HI4:=qh (HI3.out.app (l':=[(g2,TBs),(g1,TEnt)]) (g:=g3) (T:=TNdR) (by simp) hgb (by intro p hp; simp only [List.mem_cons,List.not_mem_nil,or_false] at hp; rcases hp with rfl | rfl <;> exact ⟨by simp,by dsimp only; decide⟩))
   have hHeld:=HT.out v4 HI4.out.bel
   refine step_append_run (by rfl) _ _ TNds rfl _ _ _ (by rfl) (by rfl) hr ?_
   clear hr hgb
   go_wp2_with fail
   refine hK.out _ _ (fun _ => hHeld) ?_
   clear hK K
   refine qone 11 fun K hK => ?_
   obtain ⟨a5,c5,v5,hr,hgb⟩:=app_bs (HI4.out.pl (g2,TBs) (by simp)).2 ((HI4.out.bel.block g (ltH HT0.out.2.2)).trans HT0.out.2.2)
   have HI5:=qh (HI4.out.app (l':=[(g1,TEnt)]) (g:=g2) (T:=TBs) (by simp) hgb (by intro p hp; simp only [List.mem_cons,List.not_mem_nil,or_false] at hp; rcases hp with rfl <;> exact ⟨by simp,by dsimp only; decide⟩))
   have hHeld:=HT.out v5 HI5.out.bel
   refine step_append_run (by rfl) _ _ TBss rfl _ _ _ (by rfl) (by rfl) hr ?_
   clear hr hgb
   go_wp2_with fail
   refine hK.out _ _ (fun _ => hHeld) ?_
   clear hK K
   refine qone 17 fun K hK => ?_
   have hr:=app_none (W:=v5) (HI5.out.pl (g1,TEnt) (by simp)).2
   refine step_append_run (by rfl) _ _ TEnts rfl _ _ _ (by rfl) (by rfl) hr ?_
   clear hr
   go_wp2_with fail
   refine hK.out _ _ (fun _ => hHeld) ?_
   clear hK K
   refine qtk 18 21 ?_
   simp only [qz0,qz1]
   refine qone 19 fun K hK => ?_
   go_simp
   refine hK.out _ _ (fun _ => HT.out _ (HI5.out.bel.alloc (HI5.out.bel.size) _)) ?_
   clear hK K
   refine qfr 20 2 ?_
   simp only [qz0,qz1]
   refine qdon ?_
   go_wp2_with fail
   go_ret
   exact ⟨⟨_,rfl⟩,HB.out.1.trans ((HI5.out.bel.alloc HI5.out.bel.size _).mono HB.out.1.size)⟩
end
end Go.Proofs.YtabdcphioccgnaaGreatDoor
