/- VBegin; VOpen; OvC. -/
import Derived.Test.YtabdcphioccgnaaGreatDoorK26
import Derived.Test.YtabdcphioccgnaaGreatDoorK41
set_option maxRecDepth 100000
set_option maxHeartbeats 8000000
namespace Go.Proofs.YtabdcphioccgnaaGreatDoor
section
open Go.RowKit Go.ChangeMaps Go.MapKept
abbrev TVault : TypeId:=60
def vaA (d s l : Nat) (n pn g : Int) (iv : Value) (gen seq : Nat) (sgs rcs : Int) (hv : Value) : Array Value:=#[.pointer (some ⟨d,0,none⟩),.pointer (some ⟨s,0,none⟩),.pointer (some ⟨l,0,none⟩),.int .i64 n,.int .i64 pn,.int .i64 g,iv,.int .u64 (gen : Int),.int .u64 (seq : Int),.int .i64 sgs,.int .i64 rcs,hv]
theorem vbegin_ok {w : World} {B d sb mb n l s : Nat} {S : List UInt8} {M : LogM} {lh : Value} (hD : Dk w d sb mb n S nM) (g pn : Nat) (hp : isPlan (n : Int) (pn : Int) (g : Int)) (hn : 1 + 2 * pn + g * 8 <= n) (hL : LogIn w B l d n pn g lh (.slice none 0 0) M) (hBw : B <= w.heap.size) (hw : M.wait = []) (hsl : M.sealed < g) (hz : catS S nM (1 + 2 * pn + M.sealed * 8) 8 = List.replicate 1024 0) (hnx : M.next <= 1099511627776)
  (iv hv : Value) (gen seq : Nat) (sgs rcs : Int) :
  Calls Tryz.prog 28 #[.pointer (some ⟨d,0,none⟩),.pointer (some ⟨s,0,none⟩),.pointer (some ⟨l,0,none⟩),fndV n pn g iv gen seq sgs rcs hv] w fun e w' =>
   (∃ v,e = .returned (.pointer (some ⟨v,0,none⟩)) /\ w.heap.size <= v /\ w'.heap[v]? = some (.cells (vaA d s l n pn g iv gen seq sgs rcs hv) TVault (0,0))) /\
    (∃ wv r,Rc.core r = (2,M.next,[]) /\ LogIn w' B l d n pn g lh wv ⟨M.sealed,M.head,M.next,[r]⟩) /\ Chg (fun k => k = l) w w':=by
 obtain ⟨w0,hw0⟩:=qnm (w.alloc (.cells #[.int .i64 (n : Int),.int .i64 (pn : Int),.int .i64 (g : Int),iv,.int .u64 (gen : Int),.int .u64 (seq : Int),.int .i64 sgs,.int .i64 rcs,hv] TFound))
 have hb0:=qba hw0
 have hzb : w0.heap[w.heap.size]? = some (.cells (fndA n pn g iv gen seq sgs rcs hv) TFound (0,0)):=by rw [hw0]; exact heap_alloc_new w _
 obtain ⟨N,hN⟩:=qnm w.heap.size
 rw [<- hN] at hzb
 obtain ⟨sl,hsle⟩:=qnm M.sealed
 have hLS:=fun W (hb : Below w.heap.size w W) => lsealed_any (hL.below hb)
 simp only [<- hsle] at hLS
 rw [<- hsle] at hsl hz
 have HLS:=qh hLS
 have HPL:=qh (fun W (hb : Below w.heap.size w W) => place_any (hD.below hb) (n : Int) (pn : Int) (g : Int) hp sl (1 + 2 * pn + sl * 8) (by omega) (by push_cast; rfl) (by omega))
 have HP:=qh hp.bd
 have HX:=qh (aI hD (aI hL (aI hw (aI hz (aI hnx (aI hBw (aI hsl hsle)))))))
 have HW:=qh (aI hw0 (aI hb0 (aI hzb hN)))
 clear hD hp hn hL hBw hw hsl hz hnx hw0 hb0 hzb hN hsle hLS
 unfold fndV
 go_enter Tryz.func28,Tryz.ntmps28
 go_upto_region 1 with fail
 rw [<- HW.out.1]
 rw [<- HW.out.2.2.2]
 obtain ⟨wd,hwd⟩:=qnm w0.drew
 have hbd0 : Below w0.heap.size w0 wd:=by rw [hwd]; exact (Below.refl _ _).drew
 have HBD:=qh (HW.out.2.1.trans (hbd0.mono HW.out.2.1.size))
 have HC1:=qh (fun W (hb : Below w0.heap.size w0 W) => have b:=fd_cells ((hb.block N (ltH HW.out.2.2.1)).trans HW.out.2.2.1); aI b.1 (aI b.2.1 b.2.2.1))
 refine heldB_start (fun i => [0,1,2,3,4,5,6].contains i) (fun w' => w'.cell? ⟨N,0,none⟩ = some (.int .i64 (n : Int)) /\ w'.cell? ⟨N,1,none⟩ = some (.int .i64 (pn : Int)) /\ w'.cell? ⟨N,2,none⟩ = some (.int .i64 (g : Int))) (by kernel_rfl) ?_ (fun hHeld => ?_)
 ·rw [<- hwd]; exact HC1.out _ hbd0
 rw [<- hwd] at hHeld ⊢
 clear hwd
 refine qtk 0 10 ?_
 simp only [qz0,qz1]
 refine qtk 1 11 ?_
 simp only [qz0,qz1]
 refine qtk 2 12 ?_
 simp only [qz0,qz1]
 refine qtk 3 13 ?_
 simp only [qz0,qz1]
 refine qone 4 fun K hK => ?_
 go_simp
 refine (HLS.out wd HBD.out).mono ?_
 rintro e wq ⟨rfl,hwq⟩
 rw [hwq]
 clear hwq wq
 go_wp2_with fail
 refine hK.out _ _ (fun _ => hHeld) ?_
 clear hK K
 refine qone 5 fun K hK => ?_
 go_simp
 refine (HPL.out wd HBD.out).mono ?_
 rintro e w1 ⟨v1,rfl,ho1,hb1⟩
 rw [HX.out.2.2.2.1] at ho1
 obtain ⟨a1,k1,rfl,hB1⟩:=ho1.bsn (n:=1024) (by simp)
 have hHeld:=HC1.out _ (hbd0.trans (hb1.mono hbd0.size))
 have H1:=qh (aI hB1 (hbd0.trans (hb1.mono hbd0.size)))
 clear hB1 ho1 hb1
 go_wp2_with fail
 refine hK.out _ _ (fun _ => hHeld) ?_
 clear hK K
 refine qtk 6 9 ?_
 simp only [qz0,qz1]
 refine qdon ?_
 clear hHeld hbd0 HBD
 have HTR:=qh (trim_any a1 1024 k1 _ w1 H1.out.1)
 go_wp2_with fail
 refine HTR.out.mono ?_
 rintro e w2 ⟨⟨ta,tk,tc,rfl,htk⟩,hb2⟩
 obtain rfl : tk = 0:=by
  have hn : nil0 (List.replicate 1024 0) = true:=by unfold nil0; simp
  rw [hn] at htk
  rcases Nat.eq_zero_or_pos tk with h | h
  ·exact h
  ·exact absurd (htk.1 h) (by simp)
 have hbw2 : Below w.heap.size w w2:=HW.out.2.1.trans ((H1.out.2.trans (hb2.mono H1.out.2.size)).mono HW.out.2.1.size)
 have hL2:=HX.out.2.1.below hbw2
 obtain ⟨nx,hnxe⟩:=qnm M.next
 have hnxt:=lnext_any hL2 (by rw [HX.out.2.2.1]; have:=HX.out.2.2.2.2.1; show M.next + 0 <= _; omega)
 simp only [HX.out.2.2.1,List.length_nil,Nat.add_zero,<- hnxe] at hnxt
 have HNX:=qh hnxt
 have HNE:=qh hnxe
 have H2:=qh (aI hbw2 hL2)
 have HC2:=qh (((H1.out.2.trans (hb2.mono H1.out.2.size)).block N (ltH HW.out.2.2.1)).trans HW.out.2.2.1)
 clear htk hb2 hbw2 hL2 hnxt hnxe HTR HPL H1
 go_wp2_with fail
 refine HNX.out.mono ?_
 rintro e w3 ⟨rfl,hb3⟩
 obtain ⟨hbw2,hL2⟩:=H2.out
 have hL3:=hL2.below hb3
 have hap:=append_ok hL3 (Nat.le_trans HX.out.2.2.2.2.2.1 (Nat.le_trans hbw2.size hb3.size)) (by have:=HP.out; omega) (by have:=HX.out.2.2.2.2.2.2; omega) 2 nx 0 0 none [] (by rw [HX.out.2.2.1,HNE.out]; rfl) (by rw [HX.out.2.2.1]; have:=HX.out.2.2.2.2.1; show M.next + 0 <= _; omega) ⟨by have:=HX.out.2.2.2.2.1; have:=HNE.out; omega,by omega,.inr ⟨rfl,rfl⟩⟩ ⟨rfl,by omega,by omega,.inl rfl⟩ (by rw [HX.out.2.2.1]; show fitsN 942 [_] = 1; rw [fitsN_cons,fitsN_nil,if_pos ⟨⟨by have:=HX.out.2.2.2.2.1; have:=HNE.out; show nx <= _; omega,by show 0 <= 900; omega,.inr ⟨rfl,rfl⟩⟩,by show 15 + 0 <= 942; omega⟩]) (by rw [HX.out.2.2.1]; exact Nat.zero_le _)
 have HAP:=qh hap
 have HB3:=qh (hbw2.trans (hb3.mono hbw2.size))
 have HZ3:=qh ((hb3.block N (by have:=ltH HC2.out; exact this)).trans HC2.out)
 clear hbw2 hL2 hL3 hap hb3
 go_wp2_with fail
 refine HAP.out.mono ?_
 rintro e w4 ⟨rfl,⟨wv,r,hrc,hL4⟩,hc4⟩
 have hc4' : Chg (fun k => k = l) w3 w4:=hc4.mono (fun k _ e => e.elim id (fun e => by cases e))
 have hNl : N ≠ l:=by have:=HX.out.2.1.lt; have:=HW.out.2.2.2; omega
 have hzN:=(hc4'.block N (ltH HZ3.out) hNl).trans HZ3.out
 obtain ⟨b0,b1,b2,b3,b4,b5,b6,b7,b8⟩:=fd_cells hzN
 rw [HX.out.2.2.1] at hL4
 have HF:=qh (aI hrc (aI hL4 ((Chg.of_below HB3.out (fun k => k = l)).two hc4')))
 clear hrc hL4 hc4 hc4' hzN HAP
 go_wp2_with fail
 go_ret
 obtain ⟨hrc,hL4,hc4⟩:=HF.out
 exact ⟨⟨w4.heap.size,rfl,hc4.size,heap_alloc_new w4 _⟩,⟨wv,r,by rw [hrc,HNE.out]; rfl,hL4.below ((Below.refl _ _).alloc (Nat.le_refl _) _)⟩,hc4.step ((Below.refl _ _).alloc (Nat.le_refl _) _)⟩
theorem log_alien {w : World} {B l d : Nat} {s p g : Int} {hv wv : Value} {M : LogM} (h : LogIn w B l d s p g hv wv M) : AlienS w l :=
 ⟨fun C ty fr hC => by rw [h.cel] at hC; injection hC with hC; injection hC with _ hC; subst hC; exact ⟨by decide,by decide,by decide,by decide,by decide,by decide,by decide⟩,fun es cl hC => by rw [h.cel] at hC; injection hC with hC; cases hC⟩
theorem vopen_ok {w : World} {d sb mb n : Nat} {S : List UInt8} (hD : Dk w d sb mb n S nM) (h1 : 64 <= n) (g c : Nat) (hgg : (g : Int) = seg (n : Int)) (id : List UInt8) (hid : id.length = 16) (P0 P1 : PtV) (sg : Nat -> List UInt8) (hok : DOk S n (n / 4) g id (ptBytes (n / 4) P0.m) (ptBytes (n / 4) P1.m) sg)
  (hg0 : P0.Good g (n / 4) c) (hg1 : P1.Good g (n / 4) c) (hc : c <= 60000) (hq : (newerP P0 P1).m.seq < 1099511627776) (hsl : (newerP P0 P1).m.seg < g) (hz : ∀ i : Nat,(newerP P0 P1).m.seg <= (i : Int) -> i < g -> sg i = List.replicate 1024 0) :
  Calls Tryz.prog 7 #[.pointer (some ⟨d,0,none⟩)] w fun e w' =>
   ∃ v st l iv hv,e = .returned (.tuple #[.pointer (some ⟨v,0,none⟩),.int .i64 0]) /\ w.heap.size <= v /\ w'.heap[v]? = some (.cells (vaA d st l n (n / 4 : Nat) g iv (newerP P0 P1).m.gen (newerP P0 P1).m.seq (newerP P0 P1).m.seg 0 hv) TVault (0,0)) /\ w.heap.size <= l /\
    (∃ lh wv r,Rc.core r = (2,(openM (newerP P0 P1).m.seg.toNat id (newerP P0 P1).m.head ((newerP P0 P1).m.seq + 1)).next,[]) /\ LogIn w' w.heap.size l d n (n / 4 : Nat) g lh wv { openM (newerP P0 P1).m.seg.toNat id (newerP P0 P1).m.head ((newerP P0 P1).m.seq + 1) with wait:=[r] }) /\
    Own w' w.heap.size iv id /\ StAt w' w.heap.size w.heap.size w.heap.size st (newerP P0 P1).st /\ Dk w' d sb mb n S nM /\ Below w.heap.size w w':=by
 have HMT:=qh (mount_ok hD h1 g c hgg id hid P0 P1 sg hok hg0 hg1 hc hq hz)
 have hgd:=newerP_good hg0 hg1
 obtain ⟨P,hP⟩:=qnm (newerP P0 P1)
 rw [<- hP] at HMT hgd hq hsl hz ⊢
 obtain ⟨fr,hfr⟩ : ∃ fr : Nat,P.m.seg = (fr : Int):=⟨P.m.seg.toNat,by have:=hgd.right.2.2.2.1; omega⟩
 obtain ⟨OM,hOM⟩:=qnm (openM P.m.seg.toNat id P.m.head (P.m.seq + 1))
 obtain ⟨pn,hpn⟩:=qnm (n / 4)
 have hn4 : n <= 4096:=hD.2.2.1
 have hpl : isPlan (n : Int) (pn : Int) (g : Int):=⟨by omega,by omega,by omega,hgg⟩
 have hgn : 1 + 2 * pn + g * 8 <= n:=by unfold seg at hgg; omega
 have hs0 : OM.sealed = fr:=by rw [hOM,hfr]; rfl
 have hw0 : OM.wait = []:=by rw [hOM]; rfl
 have hn0 : OM.next <= 1099511627776:=by
  rw [hOM]
  show (if P.m.seg.toNat = 0 then 1 else P.m.seq + 1) <= 1099511627776
  split
  ·omega
  ·exact hq
 have hz0 : catS S nM (1 + 2 * pn + OM.sealed * 8) 8 = List.replicate 1024 0:=by rw [hs0,hpn,hok.seg fr (by omega)]; exact hz fr (by omega) (by omega)
 rw [<- hOM,<- hpn] at HMT ⊢
 have hsg : OM.sealed < g:=by omega
 have HX:=qh (aI hD (aI hpl (aI hgn (aI hw0 (aI hsg (aI hz0 (aI hn0 hgd.sn.no)))))))
 have HQ:=qh hfr
 have HID:=qh hid
 rw [hfr] at HMT ⊢
 clear hD h1 hgg hid hok hg0 hg1 hc hq hsl hz hgd hP hOM hpn hn4 hpl hgn hs0 hw0 hn0 hz0 hsg hfr
 go_enter Tryz.func7,Tryz.ntmps7
 go_wp2_with fail
 refine HMT.out.mono ?_
 rintro e w1 ⟨st,l,iv,hv,rfl,hl1,⟨lh,hL1⟩,⟨hh,hH1,hhl⟩,hI1,hS1,hb1⟩
 obtain ⟨ia,ic,rfl,_⟩:=hI1.bsn (n:=16) HID.out
 obtain ⟨ha,hac,rfl,_⟩:=hH1.bsn (n:=32) hhl
 obtain ⟨w2,hw2⟩:=qnm (w1.alloc (.cells (fndA n pn g (.slice ia 16 ic) P.m.gen P.m.seq fr 0 (.slice ha 32 hac)) TFound))
 have hb2:=qba hw2
 obtain ⟨N,hN⟩:=qnm w1.heap.size
 have hz2 : w2.heap[N]? = some (.cells (fndA n pn g (.slice ia 16 ic) P.m.gen P.m.seq fr 0 (.slice ha 32 hac)) TFound (0,0)):=by rw [hw2,hN]; exact heap_alloc_new w1 _
 have hbw2:=hb1.trans (hb2.mono hb1.size)
 have hL2:=hL1.below hb2
 have HBG:=qh (vbegin_ok (s:=st) (HX.out.1.below hbw2) g pn HX.out.2.1 HX.out.2.2.1 hL2 hbw2.size HX.out.2.2.2.1 HX.out.2.2.2.2.1 HX.out.2.2.2.2.2.1 HX.out.2.2.2.2.2.2.1 (.slice ia 16 ic) (.slice ha 32 hac) P.m.gen P.m.seq fr 0)
 have H2:=qh (aI hbw2 (aI hL2 (aI (hI1.below hb2) (aI (hS1.below hb1.size hb2) hl1))))
 have HW2:=qh (aI hw2 hN)
 obtain ⟨b0,b1,b2,b3,b4,b5,b6,b7,b8⟩:=fd_cells hz2
 unfold fndA at hw2
 have HW2':=qh hw2
 unfold fndV
 unfold fndV at HBG
 clear hL1 hH1 hhl hI1 hS1 hb1 hl1 hw2 hb2 hN hz2 hbw2 hL2 HMT
 go_upto_region 2 with fail
 rw [<- HW2'.out,<- HW2.out.2]
 go_wp2_with fail
 refine HBG.out.mono ?_
 rintro e w3 ⟨⟨v,rfl,hv3,hzv⟩,⟨wv,r,hrc,hL3⟩,hc3⟩
 obtain ⟨hbw2,hL2,hI2,hS2,hl2⟩:=H2.out
 have hF:=show w.heap.size <= v /\ w3.heap[v]? = some (.cells (vaA d st l n pn g (.slice ia 16 ic) P.m.gen P.m.seq fr 0 (.slice ha 32 hac)) TVault (0,0)) /\ w.heap.size <= l /\ (∃ lh wv r,Rc.core r = (2,OM.next,[]) /\ LogIn w3 w.heap.size l d n pn g lh wv { OM with wait:=[r] }) /\
    Own w3 w.heap.size (.slice ia 16 ic) id /\ StAt w3 w.heap.size w.heap.size w.heap.size st P.st /\ Dk w3 d sb mb n S nM /\ Below w.heap.size w w3 from by
  have hlt:=HX.out.1.lt
  have hbs:=hbw2.size
  refine ⟨by omega,hzv,hl2,⟨lh,wv,r,hrc,hL3⟩,own_set hc3 hL2.cel (by decide) hI2,?_,(HX.out.1.below hbw2).chgl hc3 (by omega) (by omega) (by omega),hbw2.trans (hc3.below hbs (fun k _ e => by omega))⟩
  exact ((hS2.any0 (C':=w2.heap.size) HX.out.2.2.2.2.2.2.2 (fun _ => rfl) (Nat.le_refl _) (Nat.le_refl _)).alien hc3 (fun k _ e => .inr (by rw [e]; exact log_alien hL2))).any0 HX.out.2.2.2.2.2.2.2 (fun _ => rfl) (Nat.le_refl _) (Nat.le_refl _)
 have HF:=qh hF
 clear hzv hrc hL3 hc3 hbw2 hL2 hI2 hS2 hl2 hF hv3 HBG
 go_wp2_with fail
 go_ret2
 exact ⟨v,st,l,.slice ia 16 ic,.slice ha 32 hac,rfl,HF.out⟩
theorem ov_cells {w : World} {N : Nat} {k : Int} {ps ts : ByteArray} {fd at_ nn : Int} {til : Nat} {sp : Int} {da : Option Addr} {dl dc : Nat} (h : w.heap[N]? = some (.cells (ovCells k ps ts fd at_ nn til sp da dl dc) TOp (0,0))) :
  w.cell? ⟨N,0,none⟩ = some (.int .i64 k) /\ w.cell? ⟨N,1,none⟩ = some (.string ps) /\ w.cell? ⟨N,2,none⟩ = some (.string ts) /\ w.cell? ⟨N,3,none⟩ = some (.int .i64 fd) /\ w.cell? ⟨N,4,none⟩ = some (.int .i64 at_) /\ w.cell? ⟨N,5,none⟩ = some (.int .i64 nn) /\ w.cell? ⟨N,6,none⟩ = some (.int .u64 (til : Int)) /\ w.cell? ⟨N,7,none⟩ = some (.int .i64 sp) /\ w.cell? ⟨N,8,none⟩ = some (.slice da dl dc) :=
 ⟨cells_at h 0,cells_at h 1,cells_at h 2,cells_at h 3,cells_at h 4,cells_at h 5,cells_at h 6,cells_at h 7,cells_at h 8⟩
theorem rp_cells {w : World} {N : Nat} {er nr : Int} {dv lv : Value} {nd : Nd} (h : w.heap[N]? = some (.cells (rpC er nr dv lv nd) TReply (0,0))) :
  w.cell? ⟨N,0,none⟩ = some (.int .i64 er) /\ w.cell? ⟨N,1,none⟩ = some (.int .i64 nr) /\ w.cell? ⟨N,2,none⟩ = some dv /\ w.cell? ⟨N,3,none⟩ = some lv /\ w.cell? ⟨N,4,none⟩ = some (.int .i64 nd.id) /\ w.cell? ⟨N,5,none⟩ = some (.int .i64 nd.kind) /\ w.cell? ⟨N,6,none⟩ = some (.int .i64 nd.links) /\ w.cell? ⟨N,7,none⟩ = some (.int .i64 nd.size) /\ w.cell? ⟨N,8,none⟩ = some (.int .u64 (nd.til : Int)) /\ w.cell? ⟨N,9,none⟩ = some (.bool nd.closed) :=
 ⟨cells_at h 0,cells_at h 1,cells_at h 2,cells_at h 3,cells_at h 4,cells_at h 5,cells_at h 6,cells_at h 7,cells_at h 8,cells_at h 9⟩
theorem two_blocks {w w1 w0 : World} {N : Nat} {o : Array Value} (hw1 : w1 = w.alloc (.cells o TOp)) (hw0 : w0 = w1.alloc (.cells rpZ TReply)) (hN : N = w.heap.size) :
  w1.heap.size = w.heap.size + 1 /\ w0.heap.size = w.heap.size + 2 /\ Below w.heap.size w w0 /\ w0.heap[N]? = some (.cells o TOp (0,0)) /\ w0.heap[N + 1]? = some (.cells rpZ TReply (0,0)):=by
 have hb1:=qba hw1
 have hb0':=qba hw0
 have hs1 : w1.heap.size = w.heap.size + 1:=by rw [hw1]; simp
 have hs0 : w0.heap.size = w.heap.size + 2:=by rw [hw0]; simp [hs1]
 refine ⟨hs1,hs0,hb1.trans (hb0'.mono hb1.size),?_,?_⟩
 ·rw [hN]; exact (hb0'.block _ (by omega)).trans (by rw [hw1]; exact heap_alloc_new w _)
 ·rw [hN,<- hs1,hw0]; exact heap_alloc_new w1 _
end
end Go.Proofs.YtabdcphioccgnaaGreatDoor
