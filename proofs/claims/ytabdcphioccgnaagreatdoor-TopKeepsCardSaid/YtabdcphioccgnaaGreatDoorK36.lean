/- LogSeal. -/
import Derived.Test.YtabdcphioccgnaaGreatDoorK21
import Derived.Test.YtabdcphioccgnaaGreatDoorK35
set_option maxRecDepth 100000
set_option maxHeartbeats 8000000
namespace Go.Proofs.YtabdcphioccgnaaGreatDoor
section
open Go.RowKit Go.ChangeMaps Go.MapKept
theorem segBytes_length (i f : Nat) (P : List UInt8) (ls : List Rc) (hP : P.length = 32) (h : (allB ls).length <= 942) : (segBytes i f P ls).length = 1024:=by
 unfold segBytes
 simp only [List.length_append,segHead_length _ _ _ _ _ _ hP (mroot_length _),be_length,List.length_replicate]
 omega
structure LogOk (g : Int) (M : LogM) : Prop where
 g1 : 0 <= g
 g2 : g <= 65535
 sl : (M.sealed : Int) <= g
 hd : M.head.length = 32
 nx : M.next + M.wait.length <= 1099511627776
 fit : fitsN 942 M.wait = M.wait.length
 few : M.wait.length <= 1000
 seq : ∀ j (h : j < M.wait.length),M.wait[j].q = M.next + j
def sealM (M : LogM) : LogM:=⟨M.sealed + 1,sha (hdRow M.sealed M.next M.wait.length M.head (mroot (M.wait.map Rc.bytes))),M.next + M.wait.length,[]⟩
variable {w : World} {B l d : Nat} {s p g : Int} {hv wv : Value} {M : LogM}
theorem LogIn.far {S : Nat -> Prop} {w' : World} (h : LogIn w B l d s p g hv wv M) (hl : B <= l) (hc : Chg S w w') (hs : ∀ k,S k -> k < B) : LogIn w' B l d s p g hv wv M where
 cel:=(hc.block l h.lt (fun e => by have:=hs l e; omega)).trans h.cel
 hd:=hc.own h.hd (fun k hk e => by have:=hs k e; have:=h.hd.ge k hk; omega)
 wt:=by
  refine ⟨?_,fun r hr => ⟨(h.wt.2 r hr).1,(h.wt.2 r hr).2.1,hc.own (h.wt.2 r hr).2.2 (fun k hk e => by have:=hs k e; have:=(h.wt.2 r hr).2.2.ge k hk; omega)⟩⟩
  have ho:=h.wt.1
  refine ⟨ho.1,?_⟩
  rcases ho.2 with h4 | ⟨g,cap,cur,h5,h6,h7,h8⟩
  ·exact .inl h4
  ·exact .inr ⟨g,cap,cur,h5,h6,(hc.block g (ltH h7) (fun e => by have:=hs g e; omega)).trans h7,h8⟩
theorem Dk.chgl {w w' : World} {d sb mb n k0 : Nat} {S : List UInt8} (h : Dk w d sb mb n S (fun _ => none)) (hc : Chg (fun k => k = k0) w w') (h1 : d ≠ k0) (h2 : sb ≠ k0) (h3 : mb ≠ k0) : Dk w' d sb mb n S (fun _ => none):=by
 have hlt:=h.lt
 obtain ⟨hne,hS,hn,⟨cap,wr,h4,h5⟩,L,hL,hL0,hL1⟩:=h
 refine ⟨hne,hS,hn,⟨cap,wr,(hc.block d hlt.1 h1).trans h4,hc.row h5 h2⟩,L,hL.same numS (hc.block mb hlt.2.2 h3),hL0,fun i v hi => ?_⟩
 obtain ⟨_,_,_,_,_,_,hM,_⟩:=hL1 i v hi
 cases hM
theorem seal_none (h : LogIn w B l d s p g hv wv M) (h0 : M.wait = []) :
  Calls Tryz.prog 23 #[.pointer (some ⟨l,0,none⟩)] w fun e w' => e = .returned (.int .i64 0) /\ w' = w:=by
 obtain ⟨a,cap,rfl,_⟩:=h.wt.recs (n:=0) (by rw [h0]; rfl)
 have c7 : w.cell? ⟨l,7,none⟩ = some (.slice a 0 cap):=cells_at h.cel 7
 clear h h0
 go_enter Tryz.func23,Tryz.ntmps23
 go_wp2_with fail
 go_ret
 exact ⟨rfl,rfl⟩
theorem seal_ok {sb mb n : Nat} {S : List UInt8} (h : LogIn w B l d s p g hv wv M) (hD : Dk w d sb mb n S (fun _ => none)) (hd : d < B) (hsb : sb < B) (hmb : mb < B) (hl : B <= l) (hBw : B <= w.heap.size) (hp : isPlan s p g) (ok : LogOk g M) (hroom : (M.sealed : Int) < g) (h0 : M.wait ≠ []) (first : Nat) (hf : (first : Int) = 1 + 2 * p + M.sealed * 8) (hfn : first + 8 <= n) :
  Calls Tryz.prog 23 #[.pointer (some ⟨l,0,none⟩)] w fun e w' => e = .returned (.int .i64 0) /\ (∃ hv',LogIn w' B l d s p g hv' (.slice none 0 0) (sealM M)) /\
   (∃ S',Dk w' d sb mb n S' (fun _ => none) /\ ∀ j,j < n -> secOf S' j = sect S (layM (fun _ => none) first (segBytes M.sealed M.next M.head M.wait) 8) j) /\ Chg (fun k => k = l ∨ k = d ∨ k = sb ∨ k = mb) w w':=by
 obtain ⟨c,hc⟩ : ∃ c,M.wait.length = c:=⟨_,rfl⟩
 obtain ⟨wa,wcap,rfl,hRc⟩:=h.wt.recs hc
 obtain ⟨ha,hcap,rfl,hHb⟩:=h.hd.bsn (n:=32) ok.hd
 have hc0 : 0 < c:=by
  rcases Nat.eq_zero_or_pos c with h1 | h1
  ·exact absurd (List.length_eq_zero_iff.1 (hc.trans h1)) h0
  ·exact h1
 obtain ⟨hokr,hall⟩:=fitsN_all M.wait 942 (fun r hr => (h.wt.2 r hr).2.1) ok.fit
 have hok' : ∀ r ∈ M.wait,RecOk r.k r.q r.ys.length:=fun r hr => by rw [(h.wt.2 r hr).2.1]; exact hokr r hr
 have hs65 : M.sealed <= 65535:=by have:=ok.g2; omega
 have HBL:=qh (fun W (hb : Below w.heap.size w W) => build_any M.sealed M.next hs65 (by have:=ok.nx; omega) W ha hcap M.head (hHb.below hb) wa c wcap M.wait (hRc.below hb) hc0 (by have:=ok.few; omega) (by rw [ok.fit,hc]) ok.seq)
 have HX:=qh (aI h (aI hD (aI ok (aI hc (aI hok' hall)))))
 have HN:=qh (aI hd (aI hsb (aI hmb (aI hl (aI hBw hs65)))))
 have HP:=qh (aI hp (aI hroom (aI hf hfn)))
 have hcel:=h.cel
 have hc0b : ((c : Int) == 0) = false:=by rw [beq_eq_false_iff_ne]; omega
 obtain ⟨sl,hsl⟩:=qnm M.sealed
 obtain ⟨nx,hnx⟩:=qnm M.next
 obtain ⟨Pd,hPd⟩:=qnm M.head
 rw [<- hsl,<- hnx] at hcel
 rw [<- hsl,<- hnx,<- hPd] at HBL
 have HE:=qh (aI hsl (aI hnx hPd))
 have hlw:=ltH hcel
 have c7 : w.cell? ⟨l,7,none⟩ = some (.slice wa c wcap):=(log_cells hcel).2.2.2.2.2.2.2
 have HCL:=qh hcel
 clear h hD ok hc hok' hokr hall hd hsb hmb hl hBw hp hroom hf hfn hcel hsl hnx hPd h0 hRc hHb hs65
 go_enter Tryz.func23,Tryz.ntmps23
 go_upto_region 3 with fail
 refine heldB_start (fun i => [0,1,2,3,4,5,6,7,8,9,10,11,12,13,14,15,16,17,18,19,20,21].contains i) (fun w' => w'.cell? ⟨l,0,none⟩ = some (.pointer (some ⟨d,0,none⟩)) /\ w'.cell? ⟨l,1,none⟩ = some (.int .i64 s) /\ w'.cell? ⟨l,2,none⟩ = some (.int .i64 p) /\ w'.cell? ⟨l,3,none⟩ = some (.int .i64 g) /\ w'.cell? ⟨l,4,none⟩ = some (.int .i64 (sl : Int)) /\ w'.cell? ⟨l,5,none⟩ = some (.slice ha 32 hcap) /\ w'.cell? ⟨l,6,none⟩ = some (.int .u64 (nx : Int)) /\ w'.cell? ⟨l,7,none⟩ = some (.slice wa c wcap)) (by kernel_rfl) ?_ (fun hHeld => ?_)
 ·exact log_cells HCL.out
 refine qtk 0 15 ?_
 simp only [qz0,qz1]
 refine qtk 1 16 ?_
 simp only [qz0,qz1]
 refine qtk 2 17 ?_
 simp only [qz0,qz1]
 refine qtk 3 18 ?_
 simp only [qz0,qz1]
 refine qtk 4 19 ?_
 simp only [qz0,qz1]
 refine qtk 5 20 ?_
 simp only [qz0,qz1]
 refine qtk 6 21 ?_
 simp only [qz0,qz1]
 refine qtk 7 22 ?_
 simp only [qz0,qz1]
 refine qtk 8 23 ?_
 simp only [qz0,qz1]
 refine qtk 9 24 ?_
 simp only [qz0,qz1]
 refine qtk 10 25 ?_
 simp only [qz0,qz1]
 refine qtk 11 26 ?_
 simp only [qz0,qz1]
 refine qtk 12 27 ?_
 simp only [qz0,qz1]
 refine qtk 13 28 ?_
 simp only [qz0,qz1]
 refine qtk 14 29 ?_
 simp only [qz0,qz1]
 refine qtk 15 30 ?_
 simp only [qz0,qz1]
 refine qone 16 fun K hK => ?_
 go_simp
 refine (HBL.out w.drew (Below.refl _ _).drew).mono ?_
 rintro e w1 ⟨v1,rfl,ho1,hb1⟩
 have hb1' : Below w.heap.size w w1:=(Below.refl _ _).drew.trans hb1
 have hcel1:=(hb1'.block l hlw).trans HCL.out
 have hHeld:=log_cells hcel1
 have H1:=qh (aI ho1 (aI hb1' hcel1))
 obtain ⟨va,vc,rfl,hBv⟩:=ho1.bsn (n:=1024) (segBytes_length _ _ _ _ (by rw [HE.out.2.2]; exact HX.out.2.2.1.hd) HX.out.2.2.2.2.2)
 clear ho1 hb1 hb1' hcel1
 go_wp2_with fail
 refine hK.out _ _ (fun _ => hHeld) ?_
 clear hK K
 refine qtk 17 14 ?_
 simp only [qz0,qz1]
 refine qtk 18 32 ?_
 simp only [qz0,qz1]
 refine qtk 19 33 ?_
 simp only [qz0,qz1]
 refine qtk 20 3 ?_
 simp only [qz0,qz1]
 refine qtk 21 4 ?_
 simp only [qz0,qz1]
 refine qdon ?_
 clear hHeld HBL
 go_upto_region 6 with fail
 obtain ⟨ho1,hb1,hcel1⟩:=H1.out
 have hD1:=HX.out.2.1.below (hb1.drew)
 have hLY:=loglay_any (w:=w1.drew) hD1 s p g HP.out.1 M.sealed first HP.out.2.1 HP.out.2.2.1 8 va vc _ (hBv.below (Below.refl _ _).drew) HP.out.2.2.2 (fun ad had => by
  subst had
  have h1 : w.heap.size <= ad.block:=ho1.ge ad.block rfl
  have h2:=HN.out
  omega)
 rw [<- HE.out.1] at hLY
 have HLY:=qh hLY
 have HLC:=qh (show ∀ w3,Chg (fun k => k = d ∨ k = sb ∨ k = mb) w1.drew w3 -> w3.heap[l]? = some (.cells (logC d s p g sl (.slice ha 32 hcap) nx (.slice wa c wcap)) TLog (0,0)) /\ _ from fun w3 hc3 => by
  have hz : w3.heap[l]? = some (.cells (logC d s p g sl (.slice ha 32 hcap) nx (.slice wa c wcap)) TLog (0,0)):=(hc3.block l (ltH hcel1) (by have:=HN.out; omega)).trans hcel1
  exact ⟨hz,log_cells hz⟩)
 clear ho1 hb1 hcel1 hD1 hLY
 refine heldB_start (fun i => [0,1,2,3,4,5,6,7,8,9,10,11,12,13].contains i) (fun w' => w'.cell? ⟨l,0,none⟩ = some (.pointer (some ⟨d,0,none⟩)) /\ w'.cell? ⟨l,1,none⟩ = some (.int .i64 s) /\ w'.cell? ⟨l,2,none⟩ = some (.int .i64 p) /\ w'.cell? ⟨l,3,none⟩ = some (.int .i64 g) /\ w'.cell? ⟨l,4,none⟩ = some (.int .i64 (sl : Int)) /\ w'.cell? ⟨l,5,none⟩ = some (.slice ha 32 hcap) /\ w'.cell? ⟨l,6,none⟩ = some (.int .u64 (nx : Int)) /\ w'.cell? ⟨l,7,none⟩ = some (.slice wa c wcap)) (by kernel_rfl) ?_ (fun hHeld => ?_)
 ·exact log_cells H1.out.2.2
 refine qtk 0 37 ?_
 simp only [qz0,qz1]
 refine qtk 1 38 ?_
 simp only [qz0,qz1]
 refine qtk 2 39 ?_
 simp only [qz0,qz1]
 refine qtk 3 40 ?_
 simp only [qz0,qz1]
 refine qtk 4 41 ?_
 simp only [qz0,qz1]
 refine qtk 5 42 ?_
 simp only [qz0,qz1]
 refine qtk 6 43 ?_
 simp only [qz0,qz1]
 refine qtk 7 44 ?_
 simp only [qz0,qz1]
 refine qtk 8 45 ?_
 simp only [qz0,qz1]
 refine qtk 9 46 ?_
 simp only [qz0,qz1]
 refine qtk 10 47 ?_
 simp only [qz0,qz1]
 refine qtk 11 48 ?_
 simp only [qz0,qz1]
 refine qtk 12 49 ?_
 simp only [qz0,qz1]
 refine qone 13 fun K hK => ?_
 go_simp
 refine (HLY.out).mono ?_
 rintro e w3 ⟨rfl,⟨S',hD3,hS3⟩,hc3⟩
 have hHeld:=(HLC.out w3 hc3).2
 have H3:=qh (aI hD3 (aI hS3 hc3))
 clear hD3 hS3 hc3
 go_wp2_with fail
 refine hK.out _ _ (fun _ => hHeld) ?_
 clear hK K
 refine qdon ?_
 clear hHeld HLY
 go_upto_region 7 with fail
 obtain ⟨hD3,hS3,hc3⟩:=H3.out
 obtain ⟨ho1,hb1,hcel1⟩:=H1.out
 have hBv3:=hc3.bs (hBv.below (Below.refl _ _).drew) (fun ad had => by
  subst had
  have h1 : w.heap.size <= ad.block:=ho1.ge ad.block rfl
  have h2:=HN.out
  omega)
 have hL3 : LogIn w3 B l d s p g (.slice ha 32 hcap) (.slice wa c wcap) M:=(HX.out.1.below hb1.drew).far HN.out.2.2.2.1 hc3 (fun k hk => by have:=HN.out; omega)
 have hnx : nx <= 4611686018427387904:=by have:=HX.out.2.2.1.nx; have:=HE.out.2.1; omega
 have hsl65 : sl <= 65535:=by have:=HN.out; have:=HE.out.1; omega
 have hcc:=HX.out.2.2.2.1
 have hrd:=segread_ok sl nx Pd M.wait va vc w3 hBv3 hsl65 hnx (by rw [HE.out.2.2]; exact HX.out.2.2.1.hd) HX.out.2.2.2.2.1 (by rw [HE.out.2.1]; exact HX.out.2.2.1.seq) (by omega) HX.out.2.2.1.few HX.out.2.2.2.2.2
 rw [hcc] at hrd
 have HRD:=qh hrd
 have hch3 : Chg (fun k => k = l ∨ k = d ∨ k = sb ∨ k = mb) w w3:=(Chg.of_below hb1.drew _).trans hc3 (fun k _ e => .inr e)
 have H33:=qh (aI hL3 hch3)
 clear hD3 hS3 hc3 ho1 hb1 hcel1 hBv3 hL3 hnx hsl65 hcc hrd hch3 hBv
 go_wp2_with fail
 refine HRD.out.mono ?_
 rintro e w4 ⟨pa,ra,pc,rc,v4,ls',rfl,hP4,hR4,_,_,hb4⟩
 unfold hdCells
 obtain ⟨w5,hw5⟩:=qnm (w4.alloc (.cells #[.int .i64 (sl : Int),.int .u64 (nx : Int),.int .i64 (c : Int),.int .i64 ((allB M.wait).length : Nat),.slice pa 32 pc,.slice ra 32 rc] THd))
 obtain ⟨M5,hM5⟩:=qnm w4.heap.size
 have hb45:=qba hw5
 have hd5 : hd6 w5 M5 sl nx c (allB M.wait).length pa ra pc rc:=by rw [hw5,hM5]; exact heap_alloc_new w4 _
 have hb35 : Below w3.heap.size w3 w5:=hb4.trans (hb45.mono hb4.size)
 have hsz5 : B <= w5.heap.size:=Nat.le_trans HN.out.2.2.2.2.1 (Nat.le_trans H33.out.2.size hb35.size)
 obtain ⟨d0,d1,d2,d3,d4,d5⟩:=hd5.cells
 have hDI:=did_any (H33.out.1.below hb35) HN.out.2.2.2.2.2 sl nx c ((allB M.wait).length : Nat) pa ra pc rc Pd (mroot (M.wait.map Rc.bytes)) (by have:=HN.out; have:=HE.out.1; omega) (by have:=HX.out.2.2.1.few; have:=HX.out.2.2.2.1; omega) (by have:=HX.out.2.2.1.nx; have:=HE.out.2.1; omega) w3.heap.size (hP4.below hb45) (by rw [HE.out.2.2]; exact HX.out.2.2.1.hd) (hR4.below hb45) (mroot_length _) hsz5
 unfold hdCells at hDI
 have HDI:=qh hDI
 have HW5:=qh (aI hw5 (aI hM5 hb35))
 clear hP4 hR4 hb4 hw5 hM5 hb45 hd5 hb35 hsz5 hDI HRD
 go_upto_region 8 with fail
 rw [<- HW5.out.1,<- HW5.out.2.1]
 go_wp2_with fail
 refine HDI.out.mono ?_
 rintro e w6 ⟨rfl,⟨hv6,hL6⟩,hc6⟩
 have f7:=frz_of hL6.cel 7
 have c67 : w6.cell? ⟨l,7,none⟩ = some (.slice wa c wcap):=(log_cells hL6.cel).2.2.2.2.2.2.2
 have hl6:=ltH hL6.cel
 have HF:=qh (show LogIn (w6.setCell ⟨l,7,none⟩ (.slice none 0 0)) B l d s p g hv6 (.slice none 0 0) (sealM M) /\ Dk (w6.setCell ⟨l,7,none⟩ (.slice none 0 0)) d sb mb n S' (fun _ => none) /\ Chg (fun k => k = l ∨ k = d ∨ k = sb ∨ k = mb) w (w6.setCell ⟨l,7,none⟩ (.slice none 0 0)) from by
  have hcs:=chg_set w6 l 7 (.slice none 0 0)
  obtain ⟨e1,e2,e3⟩:=HE.out
  refine ⟨⟨?_,?_,OwnR.nil _ _⟩,?_,((H33.out.2.step HW5.out.2.2).trans hc6 (fun k _ e => .inl e)).trans hcs (fun k _ e => .inl e)⟩
  ·have:=cells_set (k:=7) (y:=.slice none 0 0) hL6.cel
   rw [e2,<- HX.out.2.2.2.1] at this
   exact this
  ·have:=own_log hL6.cel hcs hL6.hd
   rw [e1,e2,e3,<- HX.out.2.2.2.1] at this
   exact this
  ·exact ((H3.out.1.below HW5.out.2.2).chgl hc6 (by have:=HN.out; omega) (by have:=HN.out; omega) (by have:=HN.out; omega)).chgl hcs (by have:=HN.out; omega) (by have:=HN.out; omega) (by have:=HN.out; omega))
 clear hL6 hc6 HDI d0 d1 d2 d3 d4 d5
 go_wp2_with fail
 go_ret
 obtain ⟨h1,h2,h3⟩:=HF.out
 obtain ⟨e1,e2,e3⟩:=HE.out
 refine ⟨rfl,⟨_,h1⟩,⟨S',h2,?_⟩,h3⟩
 rw [<- e1,<- e2,<- e3]
 exact H3.out.2.1
end
end Go.Proofs.YtabdcphioccgnaaGreatDoor
