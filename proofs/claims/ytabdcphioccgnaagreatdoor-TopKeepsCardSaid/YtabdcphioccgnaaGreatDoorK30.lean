/- StDo. -/
import Derived.Test.YtabdcphioccgnaaGreatDoorK29
set_option maxRecDepth 100000
set_option maxHeartbeats 8000000
namespace Go.Proofs.YtabdcphioccgnaaGreatDoor
section
open Go.RowKit Go.ChangeMaps Go.MapKept
variable {w w' : World} {L B C s t sn c : Nat} {fp : Nat -> Option Nat} {σ : StM}
theorem paths_one {p q : List (List UInt8)} {x : List UInt8} (h : pathSplit x = (q,0)) (hp : p = [x]) : pathsT p = ([q],0):=by
 rw [hp,pathsT_one,h]; rfl
theorem do_sync (h : StIn w L B C s t sn fp σ) (hLB : L <= B) (hCB : C <= B) (hB : B <= w.heap.size) (hg : Glob w) (p x : List UInt8) (hp : p.length <= 1000000) (hx : x.length <= 1000000) 
  (fd at_ n : Int) (til : Nat) (sp : Int) (da : Option Addr) (dl dc : Nat) :
  Calls Tryz.prog 16 #[.pointer (some ⟨s,0,none⟩),.agg (ovCells 17 (strOf p) (strOf x) fd at_ n til sp da dl dc)] w fun e w' => e = .returned (.agg (noC 0 0)) /\ (∃ fp',StIn w' L B C s t sn fp' σ) /\ Fr B w w':=by
 obtain ⟨w1,hw1⟩:=qnm (w.alloc (.cells (ovCells 17 (strOf p) (strOf x) fd at_ n til sp da dl dc) TOp))
 obtain ⟨w0,hw0⟩:=qnm (w1.alloc (.cells rpZ TReply))
 have hb1:=qba hw1
 have hb0':=qba hw0
 have hs1 : w1.heap.size = w.heap.size + 1:=by rw [hw1]; simp
 have hs0 : w0.heap.size = w.heap.size + 2:=by rw [hw0]; simp [hs1]
 have hb0 : Below w.heap.size w w0:=hb1.trans (hb0'.mono hb1.size)
 have hz1 : w0.heap[w.heap.size]? = some (.cells (ovCells 17 (strOf p) (strOf x) fd at_ n til sp da dl dc) TOp (0,0)):=(hb0'.block _ (by omega)).trans (by rw [hw1]; exact heap_alloc_new w _)
 have hz0 : w0.heap[w1.heap.size]? = some (.cells rpZ TReply (0,0)):=by rw [hw0]; exact heap_alloc_new w1 _
 have HP:=qh (paths_any s 17 (by omega) p x hp hx fd at_ n til sp da dl dc w0 (hg.below hb0))
 have hpt : pathsT (pathsOf 17 p x) = ([],0):=rfl
 rw [hpt] at HP
 have HZ1:=qh hz1
 have HOV:=qh (show ∀ (W : World) (M : Nat),W.heap[M]? = some (.cells (ovCells 17 (strOf p) (strOf x) fd at_ n til sp da dl dc) TOp (0,0)) -> W.cell? ⟨M,0,none⟩ = some (.int .i64 17) /\ W.cell? ⟨M,1,none⟩ = some (.string (strOf p)) /\ W.cell? ⟨M,2,none⟩ = some (.string (strOf x)) /\ W.cell? ⟨M,3,none⟩ = some (.int .i64 fd) /\ W.cell? ⟨M,4,none⟩ = some (.int .i64 at_) /\ W.cell? ⟨M,5,none⟩ = some (.int .i64 n) /\ W.cell? ⟨M,6,none⟩ = some (.int .u64 (til : Int)) /\ W.cell? ⟨M,7,none⟩ = some (.int .i64 sp) /\ W.cell? ⟨M,8,none⟩ = some (.slice da dl dc) from
  fun W M hM => ⟨cells_at hM 0,cells_at hM 1,cells_at hM 2,cells_at hM 3,cells_at hM 4,cells_at hM 5,cells_at hM 6,cells_at hM 7,cells_at hM 8⟩)
 have HL:=qh hLB
 have HC:=qh trivial
 clear hLB
 have HW0:=qh (aI hw0 hw1)
 have H0:=qh (h.below (Nat.le_trans hCB hB) hb0)
 have hF0 : Fr B w w0:=Fr.of hb0 hB
 obtain ⟨N,hN⟩:=qnm (w.heap.size + 1)
 obtain ⟨M,hM⟩:=qnm w.heap.size
 rw [hs1,<- hN] at hz0
 rw [<- hM] at hz1
 obtain ⟨o0,o1,o2,o3,o4,o5,o6,o7,o8⟩:=HOV.out w0 M hz1
 have HB0:=qh (aI hF0 (aI (show B <= w0.heap.size by omega) (aI (show w.heap.size <= N by omega) (aI (show N < w0.heap.size by omega) (aI (show B <= N by omega) (show M < w0.heap.size by omega))))))
 have HN:=qh (aI hN hM)
 have HZ0:=qh (aI hz0 hz1)
 have HH:=qh (aI hCB hB)
 clear h hb0 hb0' hb1 hz0 hz1 hw0 hw1 hs1 hs0 hN hM hpt hp hx hg hF0 HZ1 
 unfold ovCells at HP
 try unfold ovCells at HC
 go_enter Tryz.func16,Tryz.ntmps16
 go_upto_region 1 with fail
 have HWX:=qh HW0.out
 unfold rpZ ovCells at HWX
 unfold ovCells
 rw [<- HWX.out.2,<- HWX.out.1,<- HN.out.1,<- HN.out.2]
 clear HWX HW0
 go_wp2_with fail
 refine HP.out.mono ?_
 rintro e w2 ⟨⟨v,rfl,hO⟩,hb2⟩
 have hv : v = .slice none 0 0 ∨ ∃ ad cap,v = .slice ad 0 cap:=by
  obtain ⟨vs,h1,_⟩:=hO
  rcases h1.2 with ⟨h1,_⟩ | ⟨g,cap,cur,h1,_⟩
  ·exact .inl h1
  ·exact .inr ⟨_,_,h1⟩
 have hz2 : w2.heap[N]? = some (.cells rpZ TReply (0,0)):=(hb2.block N HB0.out.2.2.2.1).trans HZ0.out.1
 clear o0 o1 o2 o3 o4 o5 o6 o7 o8
 obtain ⟨o0,o1,o2,o3,o4,o5,o6,o7,o8⟩:=HOV.out w2 M ((hb2.block M HB0.out.2.2.2.2.2).trans HZ0.out.2)
 have hS2:=H0.out.below (Nat.le_trans HH.out.1 HB0.out.2.1) hb2
 have hF2 : Fr B w w2:=HB0.out.1.trans (Fr.of hb2 HB0.out.2.1)
 have hB2 : B <= w2.heap.size:=Nat.le_trans HB0.out.2.1 hb2.size
 have HF:=qh (aI hS2 hF2)
 clear hS2 hF2 hB2 hb2 hO
 rcases hv with rfl | ⟨ad,cap,rfl⟩
 all_goals
  go_wp2_with (refine wpList_store_row rfl TReply (.tmp 4) (.tmp 179) rfl N (noC 0 0) rfl rfl TReply rpZ hz2 (by kernel_rfl) (by kernel_rfl) (by kernel_rfl) ?_)
  refine bodyPost_ret (v:=.agg (noC 0 0)) (results_cell_row rfl _ _ N TReply _ (0,0) _ rfl (setRow_heap _ _ _ _ TReply (0,0) hz2) Tryz.underlying36 rfl (by kernel_rfl)) rfl ?_
  exact ⟨rfl,⟨_,HF.out.1.setReply HL.out HH.out.1 HB0.out.2.2.2.2.1 hz2⟩,HF.out.2.setRow HB0.out.2.2.2.2.1 HB0.out.2.2.1 _⟩
theorem do_create (h : StIn w L B C s t sn fp σ) (ok : TrOk c σ.T) (hc : c <= 60000) (hLB : L <= B) (hCB : C <= B) (hB : B <= w.heap.size) (hg : Glob w) (p x : List UInt8) (hp : p.length <= 1000000) (hx : x.length <= 1000000) (q : List (List UInt8)) (hq : pathSplit p = (q,0)) (hm : ∀ s ∈ q,s.length <= 1000000) 
  (fd at_ n : Int) (til : Nat) (sp : Int) (da : Option Addr) (dl dc : Nat) (hqn : q.length <= 100000) :
  Calls Tryz.prog 16 #[.pointer (some ⟨s,0,none⟩),.agg (ovCells 1 (strOf p) (strOf x) fd at_ n til sp da dl dc)] w fun e w' => e = .returned (.agg (noC (createS c σ q).2.1 (createS c σ q).2.2)) /\ (∃ fp',StIn w' L B C s t sn fp' (createS c σ q).1) /\ Fr B w w':=by
 obtain ⟨w1,hw1⟩:=qnm (w.alloc (.cells (ovCells 1 (strOf p) (strOf x) fd at_ n til sp da dl dc) TOp))
 obtain ⟨w0,hw0⟩:=qnm (w1.alloc (.cells rpZ TReply))
 have hb1:=qba hw1
 have hb0':=qba hw0
 have hs1 : w1.heap.size = w.heap.size + 1:=by rw [hw1]; simp
 have hs0 : w0.heap.size = w.heap.size + 2:=by rw [hw0]; simp [hs1]
 have hb0 : Below w.heap.size w w0:=hb1.trans (hb0'.mono hb1.size)
 have hz1 : w0.heap[w.heap.size]? = some (.cells (ovCells 1 (strOf p) (strOf x) fd at_ n til sp da dl dc) TOp (0,0)):=(hb0'.block _ (by omega)).trans (by rw [hw1]; exact heap_alloc_new w _)
 have hz0 : w0.heap[w1.heap.size]? = some (.cells rpZ TReply (0,0)):=by rw [hw0]; exact heap_alloc_new w1 _
 have HP:=qh (paths_any s 1 (by omega) p x hp hx fd at_ n til sp da dl dc w0 (hg.below hb0))
 have hpt : pathsT (pathsOf 1 p x) = ([q],0):=paths_one hq rfl
 rw [hpt] at HP
 have HZ1:=qh hz1
 have HOV:=qh (show ∀ (W : World) (M : Nat),W.heap[M]? = some (.cells (ovCells 1 (strOf p) (strOf x) fd at_ n til sp da dl dc) TOp (0,0)) -> W.cell? ⟨M,0,none⟩ = some (.int .i64 1) /\ W.cell? ⟨M,1,none⟩ = some (.string (strOf p)) /\ W.cell? ⟨M,2,none⟩ = some (.string (strOf x)) /\ W.cell? ⟨M,3,none⟩ = some (.int .i64 fd) /\ W.cell? ⟨M,4,none⟩ = some (.int .i64 at_) /\ W.cell? ⟨M,5,none⟩ = some (.int .i64 n) /\ W.cell? ⟨M,6,none⟩ = some (.int .u64 (til : Int)) /\ W.cell? ⟨M,7,none⟩ = some (.int .i64 sp) /\ W.cell? ⟨M,8,none⟩ = some (.slice da dl dc) from
  fun W M hM => ⟨cells_at hM 0,cells_at hM 1,cells_at hM 2,cells_at hM 3,cells_at hM 4,cells_at hM 5,cells_at hM 6,cells_at hM 7,cells_at hM 8⟩)
 have HL:=qh hLB
 have HC:=qh (fun (W : World) (a : Option Addr) (m cc : Nat) (hW : StIn W L B C s t sn fp σ) (hBW : B <= W.heap.size) (hSW : Ss W a m cc q) => create_any hW ok hc hLB hCB hBW a m cc q hSW hm (by have:=hSW.1; omega))
 generalize createS c σ q = r at *
 clear ok hc hLB hm hqn
 have HW0:=qh (aI hw0 hw1)
 have H0:=qh (h.below (Nat.le_trans hCB hB) hb0)
 have hF0 : Fr B w w0:=Fr.of hb0 hB
 obtain ⟨N,hN⟩:=qnm (w.heap.size + 1)
 obtain ⟨M,hM⟩:=qnm w.heap.size
 rw [hs1,<- hN] at hz0
 rw [<- hM] at hz1
 obtain ⟨o0,o1,o2,o3,o4,o5,o6,o7,o8⟩:=HOV.out w0 M hz1
 have HB0:=qh (aI hF0 (aI (show B <= w0.heap.size by omega) (aI (show w.heap.size <= N by omega) (aI (show N < w0.heap.size by omega) (aI (show B <= N by omega) (show M < w0.heap.size by omega))))))
 have HN:=qh (aI hN hM)
 have HZ0:=qh (aI hz0 hz1)
 have HH:=qh (aI hCB hB)
 clear h hb0 hb0' hb1 hz0 hz1 hw0 hw1 hs1 hs0 hN hM hpt hp hx hg hF0 HZ1 hq
 unfold ovCells at HP
 try unfold ovCells at HC
 go_enter Tryz.func16,Tryz.ntmps16
 go_upto_region 1 with fail
 have HWX:=qh HW0.out
 unfold rpZ ovCells at HWX
 unfold ovCells
 rw [<- HWX.out.2,<- HWX.out.1,<- HN.out.1,<- HN.out.2]
 clear HWX HW0
 go_wp2_with fail
 refine HP.out.mono ?_
 rintro e w2 ⟨⟨v,rfl,hO⟩,hb2⟩
 obtain ⟨g,cap,a,m,cc,rfl,hx0,hS⟩:=hO.head
 simp only [List.length_cons,List.length_nil,Nat.zero_add]
 have hz2 : w2.heap[N]? = some (.cells rpZ TReply (0,0)):=(hb2.block N HB0.out.2.2.2.1).trans HZ0.out.1
 clear o0 o1 o2 o3 o4 o5 o6 o7 o8
 obtain ⟨o0,o1,o2,o3,o4,o5,o6,o7,o8⟩:=HOV.out w2 M ((hb2.block M HB0.out.2.2.2.2.2).trans HZ0.out.2)
 have hS2:=H0.out.below (Nat.le_trans HH.out.1 HB0.out.2.1) hb2
 have hF2 : Fr B w w2:=HB0.out.1.trans (Fr.of hb2 HB0.out.2.1)
 have hB2 : B <= w2.heap.size:=Nat.le_trans HB0.out.2.1 hb2.size
 have HCC:=qh (HC.out w2 a m cc hS2 hB2 hS)
 have HF:=qh hF2
 have HZ2:=qh hz2
 clear hS2 hF2 hB2 hb2 hO hS HC hz2
 go_wp2_with fail
 refine HCC.out.mono ?_
 rintro e w3 ⟨rfl,⟨fp',hS3⟩,hF3⟩
 have hz3:=hF3.2 N _ _ HZ2.out
 have HG:=qh (aI hS3 (HF.out.trans hF3))
 clear hS3 hF3
 unfold noC
 go_wp2_with (refine wpList_store_row rfl TReply (.tmp 4) (.tmp 29) rfl N (noC r.2.1 r.2.2) rfl rfl TReply rpZ hz3 (by kernel_rfl) (by kernel_rfl) (by kernel_rfl) ?_)
 refine bodyPost_ret (v:=.agg (noC r.2.1 r.2.2)) (results_cell_row rfl _ _ N TReply _ (0,0) _ rfl (setRow_heap _ _ _ _ TReply (0,0) hz3) Tryz.underlying36 rfl (by kernel_rfl)) rfl ?_
 exact ⟨rfl,⟨_,HG.out.1.setReply HL.out HH.out.1 HB0.out.2.2.2.2.1 hz3⟩,HG.out.2.setRow HB0.out.2.2.2.2.1 HB0.out.2.2.1 _⟩
theorem do_close (h : StIn w L B C s t sn fp σ) (ok : TrOk c σ.T) (hfd : ∀ i o,i < 8 -> σ.fds i = some o -> o.id <= 1000000) (hLB : L <= B) (hCB : C <= B) (hB : B <= w.heap.size) (hg : Glob w) (p x : List UInt8) (hp : p.length <= 1000000) (hx : x.length <= 1000000) 
  (fd at_ n : Int) (til : Nat) (sp : Int) (da : Option Addr) (dl dc : Nat) :
  Calls Tryz.prog 16 #[.pointer (some ⟨s,0,none⟩),.agg (ovCells 6 (strOf p) (strOf x) fd at_ n til sp da dl dc)] w fun e w' => e = .returned (.agg (noC (closeS σ fd til).2 0)) /\ (∃ fp',StIn w' L B C s t sn fp' (closeS σ fd til).1) /\ Fr B w w':=by
 obtain ⟨w1,hw1⟩:=qnm (w.alloc (.cells (ovCells 6 (strOf p) (strOf x) fd at_ n til sp da dl dc) TOp))
 obtain ⟨w0,hw0⟩:=qnm (w1.alloc (.cells rpZ TReply))
 have hb1:=qba hw1
 have hb0':=qba hw0
 have hs1 : w1.heap.size = w.heap.size + 1:=by rw [hw1]; simp
 have hs0 : w0.heap.size = w.heap.size + 2:=by rw [hw0]; simp [hs1]
 have hb0 : Below w.heap.size w w0:=hb1.trans (hb0'.mono hb1.size)
 have hz1 : w0.heap[w.heap.size]? = some (.cells (ovCells 6 (strOf p) (strOf x) fd at_ n til sp da dl dc) TOp (0,0)):=(hb0'.block _ (by omega)).trans (by rw [hw1]; exact heap_alloc_new w _)
 have hz0 : w0.heap[w1.heap.size]? = some (.cells rpZ TReply (0,0)):=by rw [hw0]; exact heap_alloc_new w1 _
 have HP:=qh (paths_any s 6 (by omega) p x hp hx fd at_ n til sp da dl dc w0 (hg.below hb0))
 have hpt : pathsT (pathsOf 6 p x) = ([],0):=rfl
 rw [hpt] at HP
 have HZ1:=qh hz1
 have HOV:=qh (show ∀ (W : World) (M : Nat),W.heap[M]? = some (.cells (ovCells 6 (strOf p) (strOf x) fd at_ n til sp da dl dc) TOp (0,0)) -> W.cell? ⟨M,0,none⟩ = some (.int .i64 6) /\ W.cell? ⟨M,1,none⟩ = some (.string (strOf p)) /\ W.cell? ⟨M,2,none⟩ = some (.string (strOf x)) /\ W.cell? ⟨M,3,none⟩ = some (.int .i64 fd) /\ W.cell? ⟨M,4,none⟩ = some (.int .i64 at_) /\ W.cell? ⟨M,5,none⟩ = some (.int .i64 n) /\ W.cell? ⟨M,6,none⟩ = some (.int .u64 (til : Int)) /\ W.cell? ⟨M,7,none⟩ = some (.int .i64 sp) /\ W.cell? ⟨M,8,none⟩ = some (.slice da dl dc) from
  fun W M hM => ⟨cells_at hM 0,cells_at hM 1,cells_at hM 2,cells_at hM 3,cells_at hM 4,cells_at hM 5,cells_at hM 6,cells_at hM 7,cells_at hM 8⟩)
 have HL:=qh hLB
 have HC:=qh (fun (W : World) (hW : StIn W L B C s t sn fp σ) (hBW : B <= W.heap.size) => close_any hW ok hfd hLB hCB hBW 6 (strOf p) (strOf x) fd at_ n til sp da dl dc)
 generalize closeS σ fd til = r at *
 clear ok hfd hLB
 have HW0:=qh (aI hw0 hw1)
 have H0:=qh (h.below (Nat.le_trans hCB hB) hb0)
 have hF0 : Fr B w w0:=Fr.of hb0 hB
 obtain ⟨N,hN⟩:=qnm (w.heap.size + 1)
 obtain ⟨M,hM⟩:=qnm w.heap.size
 rw [hs1,<- hN] at hz0
 rw [<- hM] at hz1
 obtain ⟨o0,o1,o2,o3,o4,o5,o6,o7,o8⟩:=HOV.out w0 M hz1
 have HB0:=qh (aI hF0 (aI (show B <= w0.heap.size by omega) (aI (show w.heap.size <= N by omega) (aI (show N < w0.heap.size by omega) (aI (show B <= N by omega) (show M < w0.heap.size by omega))))))
 have HN:=qh (aI hN hM)
 have HZ0:=qh (aI hz0 hz1)
 have HH:=qh (aI hCB hB)
 clear h hb0 hb0' hb1 hz0 hz1 hw0 hw1 hs1 hs0 hN hM hpt hp hx hg hF0 HZ1 
 unfold ovCells at HP
 try unfold ovCells at HC
 go_enter Tryz.func16,Tryz.ntmps16
 go_upto_region 1 with fail
 have HWX:=qh HW0.out
 unfold rpZ ovCells at HWX
 unfold ovCells
 rw [<- HWX.out.2,<- HWX.out.1,<- HN.out.1,<- HN.out.2]
 clear HWX HW0
 go_wp2_with fail
 refine HP.out.mono ?_
 rintro e w2 ⟨⟨v,rfl,hO⟩,hb2⟩
 have hv : v = .slice none 0 0 ∨ ∃ ad cap,v = .slice ad 0 cap:=by
  obtain ⟨vs,h1,_⟩:=hO
  rcases h1.2 with ⟨h1,_⟩ | ⟨g,cap,cur,h1,_⟩
  ·exact .inl h1
  ·exact .inr ⟨_,_,h1⟩
 have hz2 : w2.heap[N]? = some (.cells rpZ TReply (0,0)):=(hb2.block N HB0.out.2.2.2.1).trans HZ0.out.1
 clear o0 o1 o2 o3 o4 o5 o6 o7 o8
 obtain ⟨o0,o1,o2,o3,o4,o5,o6,o7,o8⟩:=HOV.out w2 M ((hb2.block M HB0.out.2.2.2.2.2).trans HZ0.out.2)
 have hS2:=H0.out.below (Nat.le_trans HH.out.1 HB0.out.2.1) hb2
 have hF2 : Fr B w w2:=HB0.out.1.trans (Fr.of hb2 HB0.out.2.1)
 have hB2 : B <= w2.heap.size:=Nat.le_trans HB0.out.2.1 hb2.size
 have HCC:=qh (HC.out w2 hS2 hB2)
 have HF:=qh hF2
 have HZ2:=qh hz2
 clear hS2 hF2 hB2 hb2 hO HC hz2
 obtain ⟨ad,cap,rfl⟩ : ∃ ad cap,v = .slice ad 0 cap:=by
  rcases hv with rfl | h
  ·exact ⟨_,_,rfl⟩
  ·exact h
 go_wp2_with fail
 refine HCC.out.mono ?_
 rintro e w3 ⟨rfl,⟨fp',hS3⟩,hF3⟩
 have HNN:=qh (no_any r.2 w3)
 have HG:=qh (aI hS3 (aI (HF.out.trans hF3) (hF3.2 N _ _ HZ2.out)))
 clear hS3 hF3
 go_wp2_with fail
 refine HNN.out.mono ?_
 rintro e w4 ⟨rfl,hb4⟩
 have hB3 : B <= w3.heap.size:=Nat.le_trans HH.out.2 HG.out.2.1.size
 have hz4:=(hb4.block N (Array.getElem?_eq_some_iff.1 HG.out.2.2).1).trans HG.out.2.2
 have HG4:=qh (aI (HG.out.1.below (Nat.le_trans HH.out.1 hB3) hb4) (HG.out.2.1.trans (Fr.of hb4 hB3)))
 clear hb4 hB3
 unfold noC
 go_wp2_with (refine wpList_store_row rfl TReply (.tmp 4) (.tmp 69) rfl N (noC r.2 0) rfl rfl TReply rpZ hz4 (by kernel_rfl) (by kernel_rfl) (by kernel_rfl) ?_)
 refine bodyPost_ret (v:=.agg (noC r.2 0)) (results_cell_row rfl _ _ N TReply _ (0,0) _ rfl (setRow_heap _ _ _ _ TReply (0,0) hz4) Tryz.underlying36 rfl (by kernel_rfl)) rfl ?_
 exact ⟨rfl,⟨_,HG4.out.1.setReply HL.out HH.out.1 HB0.out.2.2.2.2.1 hz4⟩,HG4.out.2.setRow HB0.out.2.2.2.2.1 HB0.out.2.2.1 _⟩
theorem do_unlink (h : StIn w L B C s t sn fp σ) (ok : TrOk c σ.T) (hc : c <= 60000) (hLB : L <= B) (hCB : C <= B) (hB : B <= w.heap.size) (hg : Glob w) (p x : List UInt8) (hp : p.length <= 1000000) (hx : x.length <= 1000000) (q : List (List UInt8)) (hq : pathSplit p = (q,0)) (hm : ∀ s ∈ q,s.length <= 1000000) 
  (fd at_ n : Int) (til : Nat) (sp : Int) (da : Option Addr) (dl dc : Nat) (hn : unlWhy σ q ≠ 0) :
  Calls Tryz.prog 16 #[.pointer (some ⟨s,0,none⟩),.agg (ovCells 8 (strOf p) (strOf x) fd at_ n til sp da dl dc)] w fun e w' => e = .returned (.agg (noC (unlWhy σ q : Int) 0)) /\ (∃ fp',StIn w' L B C s t sn fp' σ) /\ Fr B w w':=by
 obtain ⟨w1,hw1⟩:=qnm (w.alloc (.cells (ovCells 8 (strOf p) (strOf x) fd at_ n til sp da dl dc) TOp))
 obtain ⟨w0,hw0⟩:=qnm (w1.alloc (.cells rpZ TReply))
 have hb1:=qba hw1
 have hb0':=qba hw0
 have hs1 : w1.heap.size = w.heap.size + 1:=by rw [hw1]; simp
 have hs0 : w0.heap.size = w.heap.size + 2:=by rw [hw0]; simp [hs1]
 have hb0 : Below w.heap.size w w0:=hb1.trans (hb0'.mono hb1.size)
 have hz1 : w0.heap[w.heap.size]? = some (.cells (ovCells 8 (strOf p) (strOf x) fd at_ n til sp da dl dc) TOp (0,0)):=(hb0'.block _ (by omega)).trans (by rw [hw1]; exact heap_alloc_new w _)
 have hz0 : w0.heap[w1.heap.size]? = some (.cells rpZ TReply (0,0)):=by rw [hw0]; exact heap_alloc_new w1 _
 have HP:=qh (paths_any s 8 (by omega) p x hp hx fd at_ n til sp da dl dc w0 (hg.below hb0))
 have hpt : pathsT (pathsOf 8 p x) = ([q],0):=paths_one hq rfl
 rw [hpt] at HP
 have HZ1:=qh hz1
 have HOV:=qh (show ∀ (W : World) (M : Nat),W.heap[M]? = some (.cells (ovCells 8 (strOf p) (strOf x) fd at_ n til sp da dl dc) TOp (0,0)) -> W.cell? ⟨M,0,none⟩ = some (.int .i64 8) /\ W.cell? ⟨M,1,none⟩ = some (.string (strOf p)) /\ W.cell? ⟨M,2,none⟩ = some (.string (strOf x)) /\ W.cell? ⟨M,3,none⟩ = some (.int .i64 fd) /\ W.cell? ⟨M,4,none⟩ = some (.int .i64 at_) /\ W.cell? ⟨M,5,none⟩ = some (.int .i64 n) /\ W.cell? ⟨M,6,none⟩ = some (.int .u64 (til : Int)) /\ W.cell? ⟨M,7,none⟩ = some (.int .i64 sp) /\ W.cell? ⟨M,8,none⟩ = some (.slice da dl dc) from
  fun W M hM => ⟨cells_at hM 0,cells_at hM 1,cells_at hM 2,cells_at hM 3,cells_at hM 4,cells_at hM 5,cells_at hM 6,cells_at hM 7,cells_at hM 8⟩)
 have HL:=qh hLB
 have HC:=qh (fun (W : World) (a : Option Addr) (m cc : Nat) (hW : StIn W L B C s t sn fp σ) (hBW : B <= W.heap.size) (hSW : Ss W a m cc q) => unlno_any hW ok hc hCB hBW a m cc q hSW hm hn)
 generalize unlWhy σ q = r at *
 clear ok hc hLB hm hn
 have HW0:=qh (aI hw0 hw1)
 have H0:=qh (h.below (Nat.le_trans hCB hB) hb0)
 have hF0 : Fr B w w0:=Fr.of hb0 hB
 obtain ⟨N,hN⟩:=qnm (w.heap.size + 1)
 obtain ⟨M,hM⟩:=qnm w.heap.size
 rw [hs1,<- hN] at hz0
 rw [<- hM] at hz1
 obtain ⟨o0,o1,o2,o3,o4,o5,o6,o7,o8⟩:=HOV.out w0 M hz1
 have HB0:=qh (aI hF0 (aI (show B <= w0.heap.size by omega) (aI (show w.heap.size <= N by omega) (aI (show N < w0.heap.size by omega) (aI (show B <= N by omega) (show M < w0.heap.size by omega))))))
 have HN:=qh (aI hN hM)
 have HZ0:=qh (aI hz0 hz1)
 have HH:=qh (aI hCB hB)
 clear h hb0 hb0' hb1 hz0 hz1 hw0 hw1 hs1 hs0 hN hM hpt hp hx hg hF0 HZ1 hq
 unfold ovCells at HP
 try unfold ovCells at HC
 go_enter Tryz.func16,Tryz.ntmps16
 go_upto_region 1 with fail
 have HWX:=qh HW0.out
 unfold rpZ ovCells at HWX
 unfold ovCells
 rw [<- HWX.out.2,<- HWX.out.1,<- HN.out.1,<- HN.out.2]
 clear HWX HW0
 go_wp2_with fail
 refine HP.out.mono ?_
 rintro e w2 ⟨⟨v,rfl,hO⟩,hb2⟩
 obtain ⟨g,cap,a,m,cc,rfl,hx0,hS⟩:=hO.head
 simp only [List.length_cons,List.length_nil,Nat.zero_add]
 have hz2 : w2.heap[N]? = some (.cells rpZ TReply (0,0)):=(hb2.block N HB0.out.2.2.2.1).trans HZ0.out.1
 clear o0 o1 o2 o3 o4 o5 o6 o7 o8
 obtain ⟨o0,o1,o2,o3,o4,o5,o6,o7,o8⟩:=HOV.out w2 M ((hb2.block M HB0.out.2.2.2.2.2).trans HZ0.out.2)
 have hS2:=H0.out.below (Nat.le_trans HH.out.1 HB0.out.2.1) hb2
 have hF2 : Fr B w w2:=HB0.out.1.trans (Fr.of hb2 HB0.out.2.1)
 have hB2 : B <= w2.heap.size:=Nat.le_trans HB0.out.2.1 hb2.size
 have HCC:=qh (HC.out w2 a m cc hS2 hB2 hS)
 have HF:=qh (aI hF2 (aI hS2 hB2))
 have HZ2:=qh hz2
 clear hS2 hF2 hB2 hb2 hO hS HC hz2
 go_wp2_with fail
 refine HCC.out.mono ?_
 rintro e w3 ⟨rfl,hb3⟩
 have HNN:=qh (no_any r w3)
 have HG:=qh (aI (HF.out.2.1.below (Nat.le_trans HH.out.1 HF.out.2.2) hb3) (aI (HF.out.1.trans (Fr.of hb3 HF.out.2.2)) ((hb3.block N (Array.getElem?_eq_some_iff.1 HZ2.out).1).trans HZ2.out)))
 clear hb3
 go_wp2_with fail
 refine HNN.out.mono ?_
 rintro e w4 ⟨rfl,hb4⟩
 have hB3 : B <= w3.heap.size:=Nat.le_trans HH.out.2 HG.out.2.1.size
 have hz4:=(hb4.block N (Array.getElem?_eq_some_iff.1 HG.out.2.2).1).trans HG.out.2.2
 have HG4:=qh (aI (HG.out.1.below (Nat.le_trans HH.out.1 hB3) hb4) (HG.out.2.1.trans (Fr.of hb4 hB3)))
 clear hb4 hB3
 unfold noC
 go_wp2_with (refine wpList_store_row rfl TReply (.tmp 4) (.tmp 91) rfl N (noC (r : Int) 0) rfl rfl TReply rpZ hz4 (by kernel_rfl) (by kernel_rfl) (by kernel_rfl) ?_)
 refine bodyPost_ret (v:=.agg (noC (r : Int) 0)) (results_cell_row rfl _ _ N TReply _ (0,0) _ rfl (setRow_heap _ _ _ _ TReply (0,0) hz4) Tryz.underlying36 rfl (by kernel_rfl)) rfl ?_
 exact ⟨rfl,⟨_,HG4.out.1.setReply HL.out HH.out.1 HB0.out.2.2.2.2.1 hz4⟩,HG4.out.2.setRow HB0.out.2.2.2.2.1 HB0.out.2.2.1 _⟩
theorem do_stat (h : StIn w L B C s t sn fp σ) (ok : TrOk c σ.T) (hc : c <= 60000) (hLB : L <= B) (hCB : C <= B) (hB : B <= w.heap.size) (hg : Glob w) (p x : List UInt8) (hp : p.length <= 1000000) (hx : x.length <= 1000000) (q : List (List UInt8)) (hq : pathSplit p = (q,0)) (hm : ∀ s ∈ q,s.length <= 1000000) 
  (fd at_ n : Int) (til : Nat) (sp : Int) (da : Option Addr) (dl dc : Nat) (hsp : sp = 0) :
  Calls Tryz.prog 16 #[.pointer (some ⟨s,0,none⟩),.agg (ovCells 12 (strOf p) (strOf x) fd at_ n til sp da dl dc)] w fun e w' => e = .returned (.agg (rpC ((nodeS σ.T q).2 : Int) 0 (.slice none 0 0) (.slice none 0 0) (nodeS σ.T q).1)) /\ (∃ fp',StIn w' L B C s t sn fp' σ) /\ Fr B w w':=by
 subst hsp
 obtain ⟨w1,hw1⟩:=qnm (w.alloc (.cells (ovCells 12 (strOf p) (strOf x) fd at_ n til 0 da dl dc) TOp))
 obtain ⟨w0,hw0⟩:=qnm (w1.alloc (.cells rpZ TReply))
 have hb1:=qba hw1
 have hb0':=qba hw0
 have hs1 : w1.heap.size = w.heap.size + 1:=by rw [hw1]; simp
 have hs0 : w0.heap.size = w.heap.size + 2:=by rw [hw0]; simp [hs1]
 have hb0 : Below w.heap.size w w0:=hb1.trans (hb0'.mono hb1.size)
 have hz1 : w0.heap[w.heap.size]? = some (.cells (ovCells 12 (strOf p) (strOf x) fd at_ n til 0 da dl dc) TOp (0,0)):=(hb0'.block _ (by omega)).trans (by rw [hw1]; exact heap_alloc_new w _)
 have hz0 : w0.heap[w1.heap.size]? = some (.cells rpZ TReply (0,0)):=by rw [hw0]; exact heap_alloc_new w1 _
 have HP:=qh (paths_any s 12 (by omega) p x hp hx fd at_ n til 0 da dl dc w0 (hg.below hb0))
 have hpt : pathsT (pathsOf 12 p x) = ([q],0):=paths_one hq rfl
 rw [hpt] at HP
 have HZ1:=qh hz1
 have HOV:=qh (show ∀ (W : World) (M : Nat),W.heap[M]? = some (.cells (ovCells 12 (strOf p) (strOf x) fd at_ n til 0 da dl dc) TOp (0,0)) -> W.cell? ⟨M,0,none⟩ = some (.int .i64 12) /\ W.cell? ⟨M,1,none⟩ = some (.string (strOf p)) /\ W.cell? ⟨M,2,none⟩ = some (.string (strOf x)) /\ W.cell? ⟨M,3,none⟩ = some (.int .i64 fd) /\ W.cell? ⟨M,4,none⟩ = some (.int .i64 at_) /\ W.cell? ⟨M,5,none⟩ = some (.int .i64 n) /\ W.cell? ⟨M,6,none⟩ = some (.int .u64 (til : Int)) /\ W.cell? ⟨M,7,none⟩ = some (.int .i64 0) /\ W.cell? ⟨M,8,none⟩ = some (.slice da dl dc) from
  fun W M hM => ⟨cells_at hM 0,cells_at hM 1,cells_at hM 2,cells_at hM 3,cells_at hM 4,cells_at hM 5,cells_at hM 6,cells_at hM 7,cells_at hM 8⟩)
 have HL:=qh hLB
 have HC:=qh (fun (W : World) (a : Option Addr) (m cc : Nat) (hW : StIn W L B C s t sn fp σ) (hBW : B <= W.heap.size) (hSW : Ss W a m cc q) => stat0_any hW ok hc hCB hBW (strOf p) (strOf x) fd at_ n til da dl dc a m cc q hSW hm)
 generalize nodeS σ.T q = r at *
 clear ok hc hLB hm
 have HW0:=qh (aI hw0 hw1)
 have H0:=qh (h.below (Nat.le_trans hCB hB) hb0)
 have hF0 : Fr B w w0:=Fr.of hb0 hB
 obtain ⟨N,hN⟩:=qnm (w.heap.size + 1)
 obtain ⟨M,hM⟩:=qnm w.heap.size
 rw [hs1,<- hN] at hz0
 rw [<- hM] at hz1
 obtain ⟨o0,o1,o2,o3,o4,o5,o6,o7,o8⟩:=HOV.out w0 M hz1
 have HB0:=qh (aI hF0 (aI (show B <= w0.heap.size by omega) (aI (show w.heap.size <= N by omega) (aI (show N < w0.heap.size by omega) (aI (show B <= N by omega) (show M < w0.heap.size by omega))))))
 have HN:=qh (aI hN hM)
 have HZ0:=qh (aI hz0 hz1)
 have HH:=qh (aI hCB hB)
 clear h hb0 hb0' hb1 hz0 hz1 hw0 hw1 hs1 hs0 hN hM hpt hp hx hg hF0 HZ1 hq
 unfold ovCells at HP
 try unfold ovCells at HC
 go_enter Tryz.func16,Tryz.ntmps16
 go_upto_region 1 with fail
 have HWX:=qh HW0.out
 unfold rpZ ovCells at HWX
 unfold ovCells
 rw [<- HWX.out.2,<- HWX.out.1,<- HN.out.1,<- HN.out.2]
 clear HWX HW0
 go_wp2_with fail
 refine HP.out.mono ?_
 rintro e w2 ⟨⟨v,rfl,hO⟩,hb2⟩
 obtain ⟨g,cap,a,m,cc,rfl,hx0,hS⟩:=hO.head
 simp only [List.length_cons,List.length_nil,Nat.zero_add]
 have hz2 : w2.heap[N]? = some (.cells rpZ TReply (0,0)):=(hb2.block N HB0.out.2.2.2.1).trans HZ0.out.1
 clear o0 o1 o2 o3 o4 o5 o6 o7 o8
 obtain ⟨o0,o1,o2,o3,o4,o5,o6,o7,o8⟩:=HOV.out w2 M ((hb2.block M HB0.out.2.2.2.2.2).trans HZ0.out.2)
 have hS2:=H0.out.below (Nat.le_trans HH.out.1 HB0.out.2.1) hb2
 have hF2 : Fr B w w2:=HB0.out.1.trans (Fr.of hb2 HB0.out.2.1)
 have hB2 : B <= w2.heap.size:=Nat.le_trans HB0.out.2.1 hb2.size
 have hd:=(Below.refl w2.heap.size w2).drew
 have HCC:=qh (HC.out w2.drew a m cc (hS2.below (Nat.le_trans HH.out.1 hB2) hd) hB2 hS.drew)
 have HF:=qh (aI (hF2.trans (Fr.of hd hB2)) (aI (hS2.below (Nat.le_trans HH.out.1 hB2) hd) (show B <= w2.drew.heap.size from hB2)))
 have HZ2:=qh (show w2.drew.heap[N]? = _ from hz2)
 clear hS2 hF2 hB2 hb2 hO hS HC hz2 hd
 go_upto_region 28 with fail
 refine wp_tailb 5 (by kernel_rfl) (by kernel_rfl) rfl ?_
 simp only [List.take_succ_cons,List.take_zero,List.drop_succ_cons,List.drop_zero,List.map_cons,List.map_nil,bare]
 repeat still_step
 refine wpStill_nil ?_
 go_wp2_with fail
 refine HCC.out.mono ?_
 rintro e w3 ⟨rfl,hb3⟩
 have hz3:=(hb3.block N (Array.getElem?_eq_some_iff.1 HZ2.out).1).trans HZ2.out
 have HG:=qh (aI (HF.out.2.1.below (Nat.le_trans HH.out.1 HF.out.2.2) hb3) (HF.out.1.trans (Fr.of hb3 HF.out.2.2)))
 clear hb3
 unfold rpC
 go_wp2_with (refine wpList_store_row rfl TReply (.tmp 4) (.tmp 125) rfl N (rpC (r.2 : Int) 0 (.slice none 0 0) (.slice none 0 0) r.1) rfl rfl TReply rpZ hz3 (by kernel_rfl) (by kernel_rfl) (by kernel_rfl) ?_)
 refine bodyPost_ret (v:=.agg (rpC (r.2 : Int) 0 (.slice none 0 0) (.slice none 0 0) r.1)) (results_cell_row rfl _ _ N TReply _ (0,0) _ rfl (setRow_heap _ _ _ _ TReply (0,0) hz3) Tryz.underlying36 rfl (by kernel_rfl)) rfl ?_
 exact ⟨rfl,⟨_,HG.out.1.setReply HL.out HH.out.1 HB0.out.2.2.2.2.1 hz3⟩,HG.out.2.setRow HB0.out.2.2.2.2.1 HB0.out.2.2.1 _⟩
theorem do_keep (h : StIn w L B C s t sn fp σ) (ok : TrOk c σ.T) (hc : c <= 60000) (hLB : L <= B) (hCB : C <= B) (hB : B <= w.heap.size) (hg : Glob w) (p x : List UInt8) (hp : p.length <= 1000000) (hx : x.length <= 1000000) (q : List (List UInt8)) (hq : pathSplit p = (q,0)) (hm : ∀ s ∈ q,s.length <= 1000000) 
  (fd at_ n : Int) (til : Nat) (sp : Int) (da : Option Addr) (dl dc : Nat) :
  Calls Tryz.prog 16 #[.pointer (some ⟨s,0,none⟩),.agg (ovCells 13 (strOf p) (strOf x) fd at_ n til sp da dl dc)] w fun e w' => e = .returned (.agg (noC ((keepS σ q til).2 : Int) 0)) /\ (∃ fp',StIn w' L B C s t sn fp' (keepS σ q til).1) /\ Fr B w w':=by
 obtain ⟨w1,hw1⟩:=qnm (w.alloc (.cells (ovCells 13 (strOf p) (strOf x) fd at_ n til sp da dl dc) TOp))
 obtain ⟨w0,hw0⟩:=qnm (w1.alloc (.cells rpZ TReply))
 have hb1:=qba hw1
 have hb0':=qba hw0
 have hs1 : w1.heap.size = w.heap.size + 1:=by rw [hw1]; simp
 have hs0 : w0.heap.size = w.heap.size + 2:=by rw [hw0]; simp [hs1]
 have hb0 : Below w.heap.size w w0:=hb1.trans (hb0'.mono hb1.size)
 have hz1 : w0.heap[w.heap.size]? = some (.cells (ovCells 13 (strOf p) (strOf x) fd at_ n til sp da dl dc) TOp (0,0)):=(hb0'.block _ (by omega)).trans (by rw [hw1]; exact heap_alloc_new w _)
 have hz0 : w0.heap[w1.heap.size]? = some (.cells rpZ TReply (0,0)):=by rw [hw0]; exact heap_alloc_new w1 _
 have HP:=qh (paths_any s 13 (by omega) p x hp hx fd at_ n til sp da dl dc w0 (hg.below hb0))
 have hpt : pathsT (pathsOf 13 p x) = ([q],0):=paths_one hq rfl
 rw [hpt] at HP
 have HZ1:=qh hz1
 have HOV:=qh (show ∀ (W : World) (M : Nat),W.heap[M]? = some (.cells (ovCells 13 (strOf p) (strOf x) fd at_ n til sp da dl dc) TOp (0,0)) -> W.cell? ⟨M,0,none⟩ = some (.int .i64 13) /\ W.cell? ⟨M,1,none⟩ = some (.string (strOf p)) /\ W.cell? ⟨M,2,none⟩ = some (.string (strOf x)) /\ W.cell? ⟨M,3,none⟩ = some (.int .i64 fd) /\ W.cell? ⟨M,4,none⟩ = some (.int .i64 at_) /\ W.cell? ⟨M,5,none⟩ = some (.int .i64 n) /\ W.cell? ⟨M,6,none⟩ = some (.int .u64 (til : Int)) /\ W.cell? ⟨M,7,none⟩ = some (.int .i64 sp) /\ W.cell? ⟨M,8,none⟩ = some (.slice da dl dc) from
  fun W M hM => ⟨cells_at hM 0,cells_at hM 1,cells_at hM 2,cells_at hM 3,cells_at hM 4,cells_at hM 5,cells_at hM 6,cells_at hM 7,cells_at hM 8⟩)
 have HL:=qh hLB
 have HC:=qh (fun (W : World) (a : Option Addr) (m cc : Nat) (hW : StIn W L B C s t sn fp σ) (hBW : B <= W.heap.size) (hSW : Ss W a m cc q) => stkeep_any hW ok hc hCB hBW a m cc q hSW hm til)
 generalize keepS σ q til = r at *
 clear ok hc hLB hm
 have HW0:=qh (aI hw0 hw1)
 have H0:=qh (h.below (Nat.le_trans hCB hB) hb0)
 have hF0 : Fr B w w0:=Fr.of hb0 hB
 obtain ⟨N,hN⟩:=qnm (w.heap.size + 1)
 obtain ⟨M,hM⟩:=qnm w.heap.size
 rw [hs1,<- hN] at hz0
 rw [<- hM] at hz1
 obtain ⟨o0,o1,o2,o3,o4,o5,o6,o7,o8⟩:=HOV.out w0 M hz1
 have HB0:=qh (aI hF0 (aI (show B <= w0.heap.size by omega) (aI (show w.heap.size <= N by omega) (aI (show N < w0.heap.size by omega) (aI (show B <= N by omega) (show M < w0.heap.size by omega))))))
 have HN:=qh (aI hN hM)
 have HZ0:=qh (aI hz0 hz1)
 have HH:=qh (aI hCB hB)
 clear h hb0 hb0' hb1 hz0 hz1 hw0 hw1 hs1 hs0 hN hM hpt hp hx hg hF0 HZ1 hq
 unfold ovCells at HP
 try unfold ovCells at HC
 go_enter Tryz.func16,Tryz.ntmps16
 go_upto_region 1 with fail
 have HWX:=qh HW0.out
 unfold rpZ ovCells at HWX
 unfold ovCells
 rw [<- HWX.out.2,<- HWX.out.1,<- HN.out.1,<- HN.out.2]
 clear HWX HW0
 go_wp2_with fail
 refine HP.out.mono ?_
 rintro e w2 ⟨⟨v,rfl,hO⟩,hb2⟩
 obtain ⟨g,cap,a,m,cc,rfl,hx0,hS⟩:=hO.head
 simp only [List.length_cons,List.length_nil,Nat.zero_add]
 have hz2 : w2.heap[N]? = some (.cells rpZ TReply (0,0)):=(hb2.block N HB0.out.2.2.2.1).trans HZ0.out.1
 clear o0 o1 o2 o3 o4 o5 o6 o7 o8
 obtain ⟨o0,o1,o2,o3,o4,o5,o6,o7,o8⟩:=HOV.out w2 M ((hb2.block M HB0.out.2.2.2.2.2).trans HZ0.out.2)
 have hS2:=H0.out.below (Nat.le_trans HH.out.1 HB0.out.2.1) hb2
 have hF2 : Fr B w w2:=HB0.out.1.trans (Fr.of hb2 HB0.out.2.1)
 have hB2 : B <= w2.heap.size:=Nat.le_trans HB0.out.2.1 hb2.size
 have hd:=(Below.refl w2.heap.size w2).drew
 have HCC:=qh (HC.out w2.drew a m cc (hS2.below (Nat.le_trans HH.out.1 hB2) hd) hB2 hS.drew)
 have HF:=qh (hF2.trans (Fr.of hd hB2))
 have HZ2:=qh (show w2.drew.heap[N]? = _ from hz2)
 clear hS2 hF2 hB2 hb2 hO hS HC hz2 hd
 go_upto_region 30 with fail
 refine wp_tailb 6 (by kernel_rfl) (by kernel_rfl) rfl ?_
 simp only [List.take_succ_cons,List.take_zero,List.drop_succ_cons,List.drop_zero,List.map_cons,List.map_nil,bare]
 repeat still_step
 refine wpStill_nil ?_
 go_wp2_with fail
 refine HCC.out.mono ?_
 rintro e w3 ⟨rfl,⟨fp',hS3⟩,hF3⟩
 have HNN:=qh (no_any r.2 w3)
 have HG:=qh (aI hS3 (aI (HF.out.trans hF3) (hF3.2 N _ _ HZ2.out)))
 clear hS3 hF3
 go_wp2_with fail
 refine HNN.out.mono ?_
 rintro e w4 ⟨rfl,hb4⟩
 have hB3 : B <= w3.heap.size:=Nat.le_trans HH.out.2 HG.out.2.1.size
 have hz4:=(hb4.block N (Array.getElem?_eq_some_iff.1 HG.out.2.2).1).trans HG.out.2.2
 have HG4:=qh (aI (HG.out.1.below (Nat.le_trans HH.out.1 hB3) hb4) (HG.out.2.1.trans (Fr.of hb4 hB3)))
 clear hb4 hB3
 unfold noC
 go_wp2_with (refine wpList_store_row rfl TReply (.tmp 4) (.tmp 135) rfl N (noC (r.2 : Int) 0) rfl rfl TReply rpZ hz4 (by kernel_rfl) (by kernel_rfl) (by kernel_rfl) ?_)
 refine bodyPost_ret (v:=.agg (noC (r.2 : Int) 0)) (results_cell_row rfl _ _ N TReply _ (0,0) _ rfl (setRow_heap _ _ _ _ TReply (0,0) hz4) Tryz.underlying36 rfl (by kernel_rfl)) rfl ?_
 exact ⟨rfl,⟨_,HG4.out.1.setReply HL.out HH.out.1 HB0.out.2.2.2.2.1 hz4⟩,HG4.out.2.setRow HB0.out.2.2.2.2.1 HB0.out.2.2.1 _⟩
end
end Go.Proofs.YtabdcphioccgnaaGreatDoor
