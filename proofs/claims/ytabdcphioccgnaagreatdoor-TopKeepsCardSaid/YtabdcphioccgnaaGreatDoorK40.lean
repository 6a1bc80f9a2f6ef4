/- Mount. -/
import Derived.Test.YtabdcphioccgnaaGreatDoorK39
set_option maxRecDepth 100000
set_option maxHeartbeats 8000000
namespace Go.Proofs.YtabdcphioccgnaaGreatDoor
section
open Go.RowKit Go.ChangeMaps Go.MapKept
abbrev TFound : TypeId:=58
def fndA (n pn g : Int) (iv : Value) (gen seq : Nat) (sgs rcs : Int) (hv : Value) : Array Value:=#[.int .i64 n,.int .i64 pn,.int .i64 g,iv,.int .u64 (gen : Int),.int .u64 (seq : Int),.int .i64 sgs,.int .i64 rcs,hv]
def fndV (n pn g : Int) (iv : Value) (gen seq : Nat) (sgs rcs : Int) (hv : Value) : Value:=.agg #[.int .i64 n,.int .i64 pn,.int .i64 g,iv,.int .u64 (gen : Int),.int .u64 (seq : Int),.int .i64 sgs,.int .i64 rcs,hv]
theorem newerP_good {P0 P1 : PtV} {g : Int} {pn c : Nat} (h0 : P0.Good g pn c) (h1 : P1.Good g pn c) : (newerP P0 P1).Good g pn c:=by
 unfold newerP; split
 ·exact h0
 ·exact h1
theorem fd_cells {w : World} {b : Nat} {n pn g : Int} {iv hv : Value} {gen seq : Nat} {sgs rcs : Int} (h : w.heap[b]? = some (.cells (fndA n pn g iv gen seq sgs rcs hv) TFound (0,0))) :
  w.cell? ⟨b,0,none⟩ = some (.int .i64 n) /\ w.cell? ⟨b,1,none⟩ = some (.int .i64 pn) /\ w.cell? ⟨b,2,none⟩ = some (.int .i64 g) /\ w.cell? ⟨b,3,none⟩ = some iv /\ w.cell? ⟨b,4,none⟩ = some (.int .u64 (gen : Int)) /\ w.cell? ⟨b,5,none⟩ = some (.int .u64 (seq : Int)) /\ w.cell? ⟨b,6,none⟩ = some (.int .i64 sgs) /\ w.cell? ⟨b,7,none⟩ = some (.int .i64 rcs) /\ w.cell? ⟨b,8,none⟩ = some hv :=
 ⟨cells_at h 0,cells_at h 1,cells_at h 2,cells_at h 3,cells_at h 4,cells_at h 5,cells_at h 6,cells_at h 7,cells_at h 8⟩
theorem chg9 (w : World) (b : Nat) (v0 v1 v2 v3 v4 v5 v6 v7 v8 : Value) : Chg (fun k => k = b) w (((((((((w.setCell ⟨b,0,none⟩ v0).setCell ⟨b,1,none⟩ v1).setCell ⟨b,2,none⟩ v2).setCell ⟨b,3,none⟩ v3).setCell ⟨b,4,none⟩ v4).setCell ⟨b,5,none⟩ v5).setCell ⟨b,6,none⟩ v6).setCell ⟨b,7,none⟩ v7).setCell ⟨b,8,none⟩ v8) :=
 (((chg6 w b v0 v1 v2 v3 v4 v5).two (chg_set _ b 6 v6)).two (chg_set _ b 7 v7)).two (chg_set _ b 8 v8)
theorem fnd_store {w : World} {b : Nat} {n pn g : Int} {iv hv : Value} {gen seq : Nat} {sgs rcs : Int} (h : w.heap[b]? = some (.cells (fndA n pn g iv gen seq sgs rcs hv) TFound (0,0))) (v0 v1 v2 v3 v4 v5 v6 v7 v8 : Value) :
  (((((((((w.setCell ⟨b,0,none⟩ v0).setCell ⟨b,1,none⟩ v1).setCell ⟨b,2,none⟩ v2).setCell ⟨b,3,none⟩ v3).setCell ⟨b,4,none⟩ v4).setCell ⟨b,5,none⟩ v5).setCell ⟨b,6,none⟩ v6).setCell ⟨b,7,none⟩ v7).setCell ⟨b,8,none⟩ v8).heap[b]? = some (.cells #[v0,v1,v2,v3,v4,v5,v6,v7,v8] TFound (0,0)) :=
 by
 have e:=cells_set (k:=8) (y:=v8) (cells_set (k:=7) (y:=v7) (cells_set (k:=6) (y:=v6) (cells_set (k:=5) (y:=v5) (cells_set (k:=4) (y:=v4) (cells_set (k:=3) (y:=v3) (cells_set (k:=2) (y:=v2) (cells_set (k:=1) (y:=v1) (cells_set (k:=0) (y:=v0) h))))))))
 unfold fndA at e
 simp only [List.setIfInBounds_toArray,List.set_cons_zero,List.set_cons_succ] at e
 exact e
theorem LogIn.base0 {w : World} {B B' l d : Nat} {s p g : Int} {hv : Value} {M : LogM} (h : LogIn w B l d s p g hv (.slice none 0 0) M) (hM : M.wait = []) (hB : B' <= B) : LogIn w B' l d s p g hv (.slice none 0 0) M :=
 ⟨h.cel,h.hd.base hB,by rw [hM]; exact OwnR.nil _ _⟩
theorem mount_settled {w : World} {L s pn c : Nat} {g : Int} {P : PtV} (h : StAt w L L L s P.st) (hg : P.Good g pn c) (hc : c <= 60000) (hL : L <= w.heap.size) :
  Calls Tryz.prog 89 #[.pointer (some ⟨s,0,none⟩)] w fun e w' => ∃ s',e = .returned (.pointer (some ⟨s',0,none⟩)) /\ StAt w' L L w'.heap.size s' P.st /\ Below w.heap.size w w':=by
 obtain ⟨t,sn,fp,h⟩:=h.any0 (C':=w.heap.size) hg.sn.no (fun _ => rfl) (Nat.le_refl _) (Nat.le_refl _)
 exact settled_any h (Commits.shut h.tree hg.tr.ok hc hL hg.shut) (by show P.S.l.length <= 8; rw [hg.sn.no]; exact Nat.zero_le _) hL
theorem mount_ok {w : World} {d sb mb n : Nat} {S : List UInt8} (hD : Dk w d sb mb n S nM) (h1 : 64 <= n) (g c : Nat) (hgg : (g : Int) = seg (n : Int)) (id : List UInt8) (hid : id.length = 16) (P0 P1 : PtV) (sg : Nat -> List UInt8) (hok : DOk S n (n / 4) g id (ptBytes (n / 4) P0.m) (ptBytes (n / 4) P1.m) sg)
  (hg0 : P0.Good g (n / 4) c) (hg1 : P1.Good g (n / 4) c) (hc : c <= 60000) (hq : (newerP P0 P1).m.seq < 1099511627776) (hz : ∀ i : Nat,(newerP P0 P1).m.seg <= (i : Int) -> i < g -> sg i = List.replicate 1024 0) :
  Calls Tryz.prog 27 #[.pointer (some ⟨d,0,none⟩)] w fun e w' =>
   ∃ st l iv hv,e = .returned (.tuple #[.pointer (some ⟨st,0,none⟩),.pointer (some ⟨l,0,none⟩),fndV n (n / 4 : Nat) g iv (newerP P0 P1).m.gen (newerP P0 P1).m.seq (newerP P0 P1).m.seg 0 hv,.int .i64 0]) /\ w.heap.size <= l /\
    (∃ lh,LogIn w' w.heap.size l d n (n / 4 : Nat) g lh (.slice none 0 0) (openM (newerP P0 P1).m.seg.toNat id (newerP P0 P1).m.head ((newerP P0 P1).m.seq + 1))) /\
    (∃ hh,Own w' w.heap.size hv hh /\ hh.length = 32) /\ Own w' w.heap.size iv id /\ StAt w' w.heap.size w.heap.size w.heap.size st (newerP P0 P1).st /\ Below w.heap.size w w':=by
 have hn4 : n <= 4096:=hD.2.2.1
 have hgd:=newerP_good hg0 hg1
 obtain ⟨P,hP⟩:=qnm (newerP P0 P1)
 have hpl : isPlan (n : Int) ((n / 4 : Nat) : Int) (g : Int):=⟨by omega,by omega,by omega,hgg⟩
 have hbd:=hpl.bd
 have hgn : 1 + 2 * (n / 4) + g * 8 <= n:=by unfold seg at hgg; omega
 have hNE:=fun W (hb : Below w.heap.size w W) => mnewest_ok (hD.below hb) (n : Int) (g : Int) (n / 4) c hpl (by omega) P0 P1 hg0 hg1 hc hok.pt0 hok.pt1
 have hSU:=fun W (hb : Below w.heap.size w W) => msuper_ok (hD.below hb) h1 id hid hok.super
 rw [<- hgg] at hSU
 rw [<- hP] at hgd hq hz hNE ⊢
 obtain ⟨fr,hfr⟩ : ∃ fr : Nat,P.m.seg = (fr : Int):=⟨P.m.seg.toNat,by have:=hgd.right.2.2.2.1; omega⟩
 have hfg : (fr : Int) <= (g : Int):=by have:=hgd.right.2.2.2.2.1; omega
 rw [hfr] at hz ⊢
 rw [show ((fr : Int)).toNat = fr from Int.toNat_natCast fr]
 obtain ⟨pn,hpn⟩:=qnm (n / 4)
 rw [<- hpn] at hpl hgn hNE hSU hok hgd ⊢
 have hsg : ∀ i,fr <= i -> i < g -> catS S nM (1 + 2 * pn + i * 8) 8 = List.replicate 1024 0:=fun i h1 h2 => by rw [hok.seg i h2]; exact hz i (by omega) h2
 have hBD:=fun W (hb : Below w.heap.size w W) => behind_none (hD.below hb) (n : Int) (pn : Int) g (fr + 1) hpl (fun i h1 h2 => ⟨1 + 2 * pn + i * 8,by push_cast; rfl,by omega,hsg i (by omega) h2⟩)
 have hLO:=fun W (hb : Below w.heap.size w W) ia ic ha hc' (hI : Bs W ia 16 ic id) (hH : Bs W ha 32 hc' P.m.head) => lopen_none (hD.below hb) (n : Int) (pn : Int) (g : Int) hpl rfl ia ha ic hc' id P.m.head hI hH fr (P.m.seq + 1) hfg (by omega) (by omega) (1 + 2 * pn + fr * 8) (fun h => ⟨by push_cast; rfl,by omega,hsg fr (Nat.le_refl _) (by omega)⟩)
 obtain ⟨w0,hw0⟩:=qnm (w.alloc (.cells #[.int .i64 0,.int .i64 0,.int .i64 0,.slice none 0 0,.int .u64 0,.int .u64 0,.int .i64 0,.int .i64 0,.slice none 0 0] TFound))
 have hb0:=qba hw0
 have hz0 : w0.heap[w.heap.size]? = some (.cells (fndA 0 0 0 (.slice none 0 0) 0 0 0 0 (.slice none 0 0)) TFound (0,0)):=by rw [hw0]; exact heap_alloc_new w _
 obtain ⟨N,hN⟩:=qnm w.heap.size
 rw [<- hN] at hz0
 have HNE:=qh hNE
 have HSU:=qh (hSU w0 hb0)
 have HBD:=qh hBD
 have HLO:=qh hLO
 have HG:=qh (aI hgd (aI hc (aI hq hid)))
 have HQ:=qh (aI hfr hfg)
 have HW:=qh (aI hw0 (aI hb0 (aI hz0 hN)))
 have e1 : decide ((1099511627776 : Int) <= (P.m.seq : Int)) = false:=decide_eq_false (by omega)
 obtain ⟨q1,hq1⟩:=qnm (P.m.seq + 1)
 have e2 : IntKind.u64.wrap ((P.m.seq : Int) + 1) = (q1 : Int):=by rw [IntWalk.u64_in _ (by omega)]; omega
 obtain ⟨q,hqq⟩:=qnm P.m.seq
 rw [<- hqq] at e1 e2
 have HQ1:=qh (aI hq1 hqq)
 obtain ⟨f1,hf1⟩:=qnm (fr + 1)
 rw [<- hf1] at HBD
 have e3 : IntKind.i64.wrap ((fr : Int) + 1) = (f1 : Int):=by rw [IntWalk.i64_in _ (by omega)]; omega
 clear hf1
 clear hD h1 hgg hid hok hg0 hg1 hc hq hz hn4 hgd hpl hbd hgn hNE hSU hBD hLO hsg hfr hfg hpn hw0 hb0 hz0 hN hP hq1 hqq
 go_enter Tryz.func27,Tryz.ntmps27
 go_upto_region 1 with fail
 rw [<- HW.out.1,<- HW.out.2.2.2]
 go_wp2_with fail
 refine HSU.out.mono ?_
 rintro e w1 ⟨⟨v1,rfl,ho1⟩,hb1⟩
 obtain ⟨ia,ic,rfl,hB1⟩:=ho1.bsn (n:=16) HG.out.2.2.2
 obtain ⟨w2,hw2⟩:=qnm (w1.alloc (.cells #[.int .i64 (n : Int),.int .i64 (pn : Int),.int .i64 (g : Int)] TPlan))
 have hb2:=qba hw2
 obtain ⟨N2,hN2⟩:=qnm w1.heap.size
 have hz2 : w2.heap[N2]? = some (.cells #[.int .i64 (n : Int),.int .i64 (pn : Int),.int .i64 (g : Int)] TPlan (0,0)):=by rw [hw2,hN2]; exact heap_alloc_new w1 _
 have hb02 : Below w0.heap.size w0 w2:=hb1.trans (hb2.mono hb1.size)
 obtain ⟨p0,p1,p2⟩:=pl_cells hz2
 have H2:=qh (aI hb02 (aI hz2 (aI (ho1.below hb2) (hB1.below hb2))))
 have H2':=qh hb02.size
 have HN2:=qh (HNE.out w2 (HW.out.2.1.trans (hb02.mono HW.out.2.1.size)))
 have HW2:=qh (aI hw2 hN2)
 clear ho1 hB1 hb1 hw2 hb2 hN2 hz2 hb02 HSU HNE
 go_upto_region 4 with fail
 rw [<- HW2.out.1,<- HW2.out.2]
 go_wp2_with fail
 refine HN2.out.mono ?_
 rintro e w3 ⟨⟨ah,ch,al,lt,ct,st,rfl,ho3⟩,hb3⟩
 obtain ⟨w4,hw4⟩:=qnm (w3.alloc (.cells (mkA P.m ah ch al lt ct) TMark))
 have hb4:=qba hw4
 obtain ⟨N4,hN4⟩:=qnm w3.heap.size
 have hz4 : w4.heap[N4]? = some (.cells (mkA P.m ah ch al lt ct) TMark (0,0)):=by rw [hw4,hN4]; exact heap_alloc_new w3 _
 obtain ⟨hb02,hz2,ho2,hB2⟩:=H2.out
 have hb24 : Below w2.heap.size w2 w4:=hb3.trans (hb4.mono hb3.size)
 have hA4 : PtAt w4 w2.heap.size P ah ch al lt ct st:=ho3.below hb3.size hb4
 have hb04:=hb02.trans (hb24.mono hb02.size)
 have hz24:=(hb24.block N2 (ltH hz2)).trans hz2
 obtain ⟨p0,p1,p2⟩:=pl_cells hz24
 obtain ⟨m0,m1,m2,m3,m4⟩:=mkA_cells hz4
 rw [HQ.out.1] at m2
 rw [<- HQ1.out.2] at m1
 have hBH : Bs w4 ah 32 ch P.m.head:=by
  obtain ⟨aa,ca,hva,hBa⟩:=hA4.1.1.bsn (n:=32) HG.out.1.right.2.2.2.2.2
  injection hva with hva1 hva2 hva3
  subst hva1 hva3
  exact hBa
 have HL4:=qh (HLO.out w4 (HW.out.2.1.trans (hb04.mono HW.out.2.1.size)) ia ic ah ch (hB2.below hb24) hBH)
 rw [<- HQ1.out.1] at HL4
 have H3':=qh hb24.size
 have H4:=qh (aI hb04 (aI hA4 (aI hz24 (aI hz4 (aI (ho2.below hb24) hb02.size)))))
 unfold mkA at hw4
 have HW4:=qh (aI hw4 hN4)
 unfold mkV
 rw [HQ.out.1,<- HQ1.out.2]
 rw [HQ.out.1,<- HQ1.out.2] at HW4
 clear ho3 hb3 hb4 hw4 hN4 hz4 hb02 hz2 ho2 hB2 hb24 hA4 hb04 hz24 hBH H2 HN2 HLO
 go_upto_region 7 with fail
 rw [<- HW4.out.1,<- HW4.out.2]
 go_upto_region 9 with fail
 go_wp2_with fail
 refine HL4.out.mono ?_
 rintro e w5 ⟨l,rfl,hl5,⟨hlv,hL5⟩,hb5⟩
 obtain ⟨hb04,hA4,hz24,hz4,ho4,hs02⟩:=H4.out
 obtain ⟨w6,hw6⟩:=qnm w5.drew
 have hb46 : Below w4.heap.size w4 w6:=by rw [hw6]; exact hb5.drew
 have hL6 : LogIn w6 w4.heap.size l d n pn g hlv (.slice none 0 0) (openM fr id P.m.head q1):=by rw [hw6]; exact hL5.below (Below.refl _ _).drew
 have H6:=qh (aI hb46 hL6)
 have HB6:=qh (HBD.out w6 (HW.out.2.1.trans ((hb04.trans (hb46.mono hb04.size)).mono HW.out.2.1.size)))
 have HS6:=qh (show Calls Tryz.prog 79 #[.pointer (some ⟨l,0,none⟩)] w6 fun e w' => e = .returned (.int .i64 (fr : Int)) /\ w' = w6 from lsealed_any hL6)
 have hz26:=(hb46.block N2 (ltH hz24)).trans hz24
 clear hL5 hb5 hb46 hL6 hb04 hA4 hz24 hz4 ho4 hs02 HL4 HBD
 go_upto_region 10 with fail
 refine heldB_start (fun i => [0,1,2,3,4,5,6,7,8,9].contains i) (fun w' => w'.cell? ⟨N2,0,none⟩ = some (.int .i64 (n : Int)) /\ w'.cell? ⟨N2,1,none⟩ = some (.int .i64 (pn : Int)) /\ w'.cell? ⟨N2,2,none⟩ = some (.int .i64 (g : Int))) (by kernel_rfl) ?_ (fun hHeld => ?_)
 ·rw [<- hw6]; exact pl_cells hz26
 rw [<- hw6] at hHeld ⊢
 clear hw6
 refine qtk 0 60 ?_
 simp only [qz0,qz1]
 refine qtk 1 61 ?_
 simp only [qz0,qz1]
 refine qtk 2 62 ?_
 simp only [qz0,qz1]
 refine qtk 3 63 ?_
 simp only [qz0,qz1]
 refine qtk 4 64 ?_
 simp only [qz0,qz1]
 refine qtk 5 65 ?_
 simp only [qz0,qz1]
 refine qone 6 fun K hK => ?_
 go_simp
 refine HS6.out.mono ?_
 rintro e wq ⟨rfl,hwq⟩
 rw [hwq]
 clear hwq wq
 go_wp2_with fail
 refine hK.out _ _ (fun _ => hHeld) ?_
 clear hK K
 refine qtk 7 67 ?_
 simp only [qz0,qz1]
 refine qone 8 fun K hK => ?_
 go_simp
 refine HB6.out.mono ?_
 rintro e w7 ⟨rfl,hb7⟩
 have hHeld:=pl_cells ((hb7.block N2 (ltH hz26)).trans hz26)
 have HB7:=qh hb7
 clear hb7
 go_wp2_with fail
 refine hK.out _ _ (fun _ => hHeld) ?_
 clear hK K
 refine qtk 9 69 ?_
 simp only [qz0,qz1]
 refine qdon ?_
 clear hHeld HS6 HB6
 go_upto_region 12 with fail
 obtain ⟨hb04,hA4,hz24,hz4,ho4,hs02⟩:=H4.out
 obtain ⟨hb46,hL6⟩:=H6.out
 obtain ⟨we,hwe⟩:=qnm w7.drew
 have hb6e : Below w6.heap.size w6 we:=by rw [hwe]; exact HB7.out.drew
 have hb4e : Below w4.heap.size w4 we:=hb46.trans (hb6e.mono hb46.size)
 have hbe : Below w.heap.size w we:=HW.out.2.1.trans ((hb04.trans (hb4e.mono hb04.size)).mono HW.out.2.1.size)
 have hLe:=hL6.below hb6e
 have hz2e:=(hb4e.block N2 (ltH hz24)).trans hz24
 have hz4e:=(hb4e.block N4 (ltH hz4)).trans hz4
 have hzNe:=(hb4e.block N (ltH ((hb04.block N (ltH HW.out.2.2.1)).trans HW.out.2.2.1))).trans ((hb04.block N (ltH HW.out.2.2.1)).trans HW.out.2.2.1)
 have HE:=qh (aI hbe (aI hLe (aI (hA4.below H3'.out hb4e) (aI (ho4.below hb4e) hzNe))))
 have HCE:=qh (fun W (hb : Below we.heap.size we W) => aI (pl_cells ((hb.block N2 (ltH hz2e)).trans hz2e)) (mkA_cells ((hb.block N4 (ltH hz4e)).trans hz4e)))
 rw [HQ.out.1,<- HQ1.out.2] at HCE
 have HSE:=qh (fun W (hb : Below we.heap.size we W) => show Calls Tryz.prog 79 #[.pointer (some ⟨l,0,none⟩)] W fun e w' => e = .returned (.int .i64 (fr : Int)) /\ w' = W from lsealed_any (hLe.below hb))
 have hhd : (openM fr id P.m.head q1).head.length = 32:=by
  show (if fr = 0 then sha (3 :: id) else P.m.head).length = 32
  split
  ·exact sha_length _
  ·exact HG.out.1.right.2.2.2.2.2
 have HHD:=qh (fun W (hb : Below we.heap.size we W) => lhead_any (hLe.below hb) (by rw [hhd]; omega))
 have HHL:=qh hhd
 have HSZ:=qh (show N < w2.heap.size /\ w2.heap.size <= w4.heap.size /\ w4.heap.size <= we.heap.size /\ w0.heap.size <= w2.heap.size from by
  have h1:=ltH HW.out.2.2.1
  have h2:=H2'.out
  have h3:=hb4e.size
  have h4:=H3'.out
  omega)
 clear hb04 hA4 hz24 hz4 ho4 hs02 hb46 hL6 hb6e hb4e hbe hLe hz2e hz4e hzNe hhd hz26 p0 p1 p2 m0 m1 m2 m3 m4 H4 H6 HB7
 refine heldB_start (fun i => [0,1,2,3,4,5,6,7,8,9,10,11].contains i) (fun w' => (w'.cell? ⟨N2,0,none⟩ = some (.int .i64 (n : Int)) /\ w'.cell? ⟨N2,1,none⟩ = some (.int .i64 (pn : Int)) /\ w'.cell? ⟨N2,2,none⟩ = some (.int .i64 (g : Int))) /\ w'.cell? ⟨N4,0,none⟩ = some (.int .u64 (P.m.gen : Int)) /\ w'.cell? ⟨N4,1,none⟩ = some (.int .u64 (q : Int)) /\ w'.cell? ⟨N4,2,none⟩ = some (.int .i64 (fr : Int)) /\ w'.cell? ⟨N4,3,none⟩ = some (.slice ah 32 ch) /\ w'.cell? ⟨N4,4,none⟩ = some (.slice al lt ct)) (by kernel_rfl) ?_ (fun hHeld => ?_)
 ·rw [<- hwe]; exact HCE.out _ (Below.refl _ _)
 rw [<- hwe] at hHeld ⊢
 clear hwe
 have HBT:=qh (Below.refl we.heap.size we)
 refine qtk 0 71 ?_
 simp only [qz0,qz1]
 refine qtk 1 72 ?_
 simp only [qz0,qz1]
 refine qtk 2 73 ?_
 simp only [qz0,qz1]
 refine qtk 3 74 ?_
 simp only [qz0,qz1]
 refine qtk 4 75 ?_
 simp only [qz0,qz1]
 refine qtk 5 76 ?_
 simp only [qz0,qz1]
 refine qtk 6 77 ?_
 simp only [qz0,qz1]
 refine qtk 8 79 ?_
 simp only [qz0,qz1]
 refine heldB_two 7 11 (by kernel_rfl) rfl rfl (fun K hK => ?_) (fun K hK => ?_)
 ·go_simp
  refine (HSE.out we HBT.out).mono ?_
  rintro e wq ⟨rfl,hwq⟩
  rw [hwq]
  clear hwq wq
  go_wp2_with fail
  refine hK.out _ _ (fun _ => hHeld) ?_
  clear hK K
  refine heldB_two 9 11 (by kernel_rfl) rfl rfl (fun K hK => ?_) (fun K hK => ?_)
  ·go_simp
   refine (HHD.out we HBT.out).mono ?_
   rintro e wh ⟨⟨vh,rfl,hoh⟩,hbh⟩
   obtain ⟨hha,hhc,rfl,_⟩:=hoh.bsn (n:=32) HHL.out
   have hbt:=HBT.out.trans (hbh.mono HBT.out.size)
   have HOH:=qh (hoh.base HBT.out.size)
   clear HBT
   have HBT:=qh hbt
   have hHeld:=HCE.out _ hbt
   clear hoh hbh hbt
   go_wp2_with fail
   refine hK.out _ _ (fun _ => hHeld) ?_
   clear hK K
   refine qtk 10 81 ?_
   simp only [qz0,qz1]
   refine qone 11 fun K hK => ?_
   go_simp
   obtain ⟨wa,hwa⟩:=qnm (wh.alloc (.cells #[.int .i64 0,.int .i64 0,.int .i64 0,.slice none 0 0,.int .u64 0,.int .u64 0,.int .i64 0,.int .i64 0,.slice none 0 0] TFound))
   have hba:=qba hwa
   obtain ⟨A,hA⟩:=qnm wh.heap.size
   have hza : wa.heap[A]? = some (.cells (fndA 0 0 0 (.slice none 0 0) 0 0 0 0 (.slice none 0 0)) TFound (0,0)):=by rw [hwa,hA]; exact heap_alloc_new _ _
   have HZA:=qh (aI hza (show we.heap.size <= A from by rw [hA]; exact HBT.out.size))
   have hbt:=HBT.out.trans (hba.mono HBT.out.size)
   have hoh:=HOH.out.below hba
   clear HOH
   have HOH:=qh hoh
   clear hoh
   clear HBT
   have HBT:=qh hbt
   have hHeld:=HCE.out _ hbt
   rw [<- hwa,<- hA]
   clear hbt hba hza hwa hA
   refine hK.out _ _ (fun _ => hHeld) ?_
   clear hK K
   refine qone 12 fun K hK => ?_
   obtain ⟨hza,hage⟩:=HZA.out
   have z0 : wa.cell? ⟨A,0,none⟩ = some (.int .i64 0):=cells_at hza 0
   have f0:=frz_of hza 0
   have z1 : wa.cell? ⟨A,1,none⟩ = some (.int .i64 0):=cells_at hza 1
   have f1:=frz_of hza 1
   have z2 : wa.cell? ⟨A,2,none⟩ = some (.int .i64 0):=cells_at hza 2
   have f2:=frz_of hza 2
   have z3 : wa.cell? ⟨A,3,none⟩ = some (.slice none 0 0):=cells_at hza 3
   have f3:=frz_of hza 3
   have z4 : wa.cell? ⟨A,4,none⟩ = some (.int .u64 0):=cells_at hza 4
   have f4:=frz_of hza 4
   have z5 : wa.cell? ⟨A,5,none⟩ = some (.int .u64 0):=cells_at hza 5
   have f5:=frz_of hza 5
   have z6 : wa.cell? ⟨A,6,none⟩ = some (.int .i64 0):=cells_at hza 6
   have f6:=frz_of hza 6
   have z7 : wa.cell? ⟨A,7,none⟩ = some (.int .i64 0):=cells_at hza 7
   have f7:=frz_of hza 7
   have z8 : wa.cell? ⟨A,8,none⟩ = some (.slice none 0 0):=cells_at hza 8
   have f8:=frz_of hza 8
   have hzl:=ltH hza
   go_simp
   have hch:=chg9 wa A (.int .i64 (n : Int)) (.int .i64 (pn : Int)) (.int .i64 (g : Int)) (.slice ia 16 ic) (.int .u64 (P.m.gen : Int)) (.int .u64 (q : Int)) (.int .i64 (fr : Int)) (.int .i64 0) (.slice hha 32 hhc)
   have hfs:=fnd_store hza (.int .i64 (n : Int)) (.int .i64 (pn : Int)) (.int .i64 (g : Int)) (.slice ia 16 ic) (.int .u64 (P.m.gen : Int)) (.int .u64 (q : Int)) (.int .i64 (fr : Int)) (.int .i64 0) (.slice hha 32 hhc)
   obtain ⟨wf,hwf⟩:=qnm ((((((((((wa.setCell ⟨A,0,none⟩ (.int .i64 (n : Int))).setCell ⟨A,1,none⟩ (.int .i64 (pn : Int))).setCell ⟨A,2,none⟩ (.int .i64 (g : Int))).setCell ⟨A,3,none⟩ (.slice ia 16 ic)).setCell ⟨A,4,none⟩ (.int .u64 (P.m.gen : Int))).setCell ⟨A,5,none⟩ (.int .u64 (q : Int))).setCell ⟨A,6,none⟩ (.int .i64 (fr : Int))).setCell ⟨A,7,none⟩ (.int .i64 0)).setCell ⟨A,8,none⟩ (.slice hha 32 hhc)))
   rw [<- hwf] at hch hfs ⊢
   have hbt:=HBT.out.trans (hch.below HBT.out.size (fun k _ e => by omega))
   have hof:=own_set hch hza (by decide) HOH.out
   have HF:=qh (aI hbt (aI hfs (aI hof hage)))
   clear hza hage hzl hch hfs hbt hof hwf z0 f0 z1 f1 z2 f2 z3 f3 z4 f4 z5 f5 z6 f6 z7 f7 z8 f8
   refine hK.out _ _ (fun h => by simp at h) ?_
   clear hK K
   refine qdon ?_
   clear hHeld HHD HSE HCE HBT HZA HOH
   have HCC:=qh (concat0_any wf)
   go_wp2_with fail
   refine HCC.out.mono ?_
   rintro e w8 ⟨rfl,hb8⟩
   have HB8:=qh hb8
   clear hb8 HCC
   go_wp2_with fail
   go_loopw [10,11,85] (fun a b i wr => a = .pointer (some ⟨st,0,none⟩) /\ b = .bool true /\ i = .int .i64 0 /\ wr = w8) (fun _ _ _ _ => 0)
   case atStart => exact ⟨rfl,rfl,rfl,rfl⟩
   case round =>
    obtain ⟨rfl,rfl,rfl,rfl⟩:=hrel
    go_upto_region 22 with fail
    obtain ⟨wg,hwg⟩:=qnm wr.drew
    obtain ⟨hbt,hfs,hof,hage⟩:=HF.out
    have hbfg : Below wf.heap.size wf wg:=by rw [hwg]; exact HB8.out.drew
    have hbeg:=hbt.trans (hbfg.mono hbt.size)
    have hfag:=(hbfg.block A (ltH hfs)).trans hfs
    obtain ⟨hbe,hLe,hPt,hoi,hzNe⟩:=HE.out
    have hPg:=(hPt.below (Nat.le_trans HSZ.out.2.1 HSZ.out.2.2.1) hbeg).2
    have HST:=qh (mount_settled hPg HG.out.1 HG.out.2.1 (by have:=HSZ.out; have:=hbeg.size; omega))
    have HFA:=qh hfag
    have HBG:=qh hbeg
    have HEND:=qh (show ∀ s9 w9 wl,StAt w9 w2.heap.size w2.heap.size w9.heap.size s9 P.st -> Below wg.heap.size wg w9 -> Below we.heap.size we w9 -> w9.heap[N]? = some (.cells (fndA 0 0 0 (.slice none 0 0) 0 0 0 0 (.slice none 0 0)) TFound (0,0)) -> Chg (fun k => k = N) w9 wl -> _ from fun s9 w9 wl hs9 hb9 hbe9 hzN hch => by
     have hf9:=hbfg.trans (hb9.mono hbfg.size)
     have hsz:=HSZ.out
     have hNw:=HW.out.2.2.2
     have hbw9:=hbe.trans (hbe9.mono hbe.size)
     have hw0s:=HW.out.2.1.size
     exact (show (∃ lh,LogIn wl w.heap.size l d n pn g lh (.slice none 0 0) (openM fr id P.m.head q1)) /\ (∃ hh,Own wl w.heap.size (.slice hha 32 hhc) hh /\ hh.length = 32) /\ Own wl w.heap.size (.slice ia 16 ic) id /\ StAt wl w.heap.size w.heap.size w.heap.size s9 P.st /\ Below w.heap.size w wl from
      ⟨⟨hlv,((hLe.below hbe9).far hl5 hch (fun k e => by omega)).base0 rfl (by omega)⟩,⟨_,(own_set hch hzN (by decide) (hof.below hf9)).base (by omega),HHL.out⟩,(own_set hch hzN (by decide) (hoi.below hbe9)).base (by omega),(hs9.alien hch (fun k _ e => .inl (by omega))).any0 HG.out.1.sn.no (fun _ => rfl) (by omega) (by omega),hbw9.trans (hch.below hbw9.size (fun k _ e => by omega))⟩))
    clear hbt hfs hof hage hbfg hbeg hfag hbe hLe hPt hoi hzNe hPg HF
    refine heldB_start (fun i => [0,1,2,3,4,5].contains i) (fun w' => w'.cell? ⟨A,0,none⟩ = some (.int .i64 (n : Int)) /\ w'.cell? ⟨A,1,none⟩ = some (.int .i64 (pn : Int)) /\ w'.cell? ⟨A,2,none⟩ = some (.int .i64 (g : Int)) /\ w'.cell? ⟨A,3,none⟩ = some (.slice ia 16 ic) /\ w'.cell? ⟨A,4,none⟩ = some (.int .u64 (P.m.gen : Int)) /\ w'.cell? ⟨A,5,none⟩ = some (.int .u64 (q : Int)) /\ w'.cell? ⟨A,6,none⟩ = some (.int .i64 (fr : Int)) /\ w'.cell? ⟨A,7,none⟩ = some (.int .i64 0) /\ w'.cell? ⟨A,8,none⟩ = some (.slice hha 32 hhc)) (by kernel_rfl) ?_ (fun hHeld => ?_)
    ·rw [<- hwg]; exact fd_cells HFA.out
    rw [<- hwg] at hHeld ⊢
    clear hwg
    refine qtk 0 106 ?_
    simp only [qz0,qz1]
    refine qtk 2 108 ?_
    simp only [qz0,qz1]
    refine qtk 3 109 ?_
    simp only [qz0,qz1]
    refine qone 1 fun K hK => ?_
    go_simp
    refine HST.out.mono ?_
    rintro e w9 ⟨s9,rfl,hs9,hb9⟩
    have hfa9:=(hb9.block A (ltH HFA.out)).trans HFA.out
    have hHeld:=fd_cells hfa9
    have H9:=qh (aI hs9 hb9)
    clear hs9 hb9 hfa9
    go_wp2_with fail
    refine hK.out _ _ (fun _ => hHeld) ?_
    clear hK K
    refine qtk 4 2 ?_
    simp only [qz0,qz1]
    refine qtk 5 3 ?_
    simp only [qz0,qz1]
    refine qone 6 fun K hK => ?_
    have hbe9:=HBG.out.trans (H9.out.2.mono HBG.out.size)
    have hzN:=(hbe9.block N (ltH HE.out.2.2.2.2)).trans HE.out.2.2.2.2
    have z0 : w9.cell? ⟨N,0,none⟩ = some (.int .i64 0):=cells_at hzN 0
    have f0:=frz_of hzN 0
    have z1 : w9.cell? ⟨N,1,none⟩ = some (.int .i64 0):=cells_at hzN 1
    have f1:=frz_of hzN 1
    have z2 : w9.cell? ⟨N,2,none⟩ = some (.int .i64 0):=cells_at hzN 2
    have f2:=frz_of hzN 2
    have z3 : w9.cell? ⟨N,3,none⟩ = some (.slice none 0 0):=cells_at hzN 3
    have f3:=frz_of hzN 3
    have z4 : w9.cell? ⟨N,4,none⟩ = some (.int .u64 0):=cells_at hzN 4
    have f4:=frz_of hzN 4
    have z5 : w9.cell? ⟨N,5,none⟩ = some (.int .u64 0):=cells_at hzN 5
    have f5:=frz_of hzN 5
    have z6 : w9.cell? ⟨N,6,none⟩ = some (.int .i64 0):=cells_at hzN 6
    have f6:=frz_of hzN 6
    have z7 : w9.cell? ⟨N,7,none⟩ = some (.int .i64 0):=cells_at hzN 7
    have f7:=frz_of hzN 7
    have z8 : w9.cell? ⟨N,8,none⟩ = some (.slice none 0 0):=cells_at hzN 8
    have f8:=frz_of hzN 8
    have hzl:=ltH hzN
    go_simp
    have hch:=chg9 w9 N (.int .i64 (n : Int)) (.int .i64 (pn : Int)) (.int .i64 (g : Int)) (.slice ia 16 ic) (.int .u64 (P.m.gen : Int)) (.int .u64 (q : Int)) (.int .i64 (fr : Int)) (.int .i64 0) (.slice hha 32 hhc)
    have hfs:=fnd_store hzN (.int .i64 (n : Int)) (.int .i64 (pn : Int)) (.int .i64 (g : Int)) (.slice ia 16 ic) (.int .u64 (P.m.gen : Int)) (.int .u64 (q : Int)) (.int .i64 (fr : Int)) (.int .i64 0) (.slice hha 32 hhc)
    obtain ⟨wl,hwl⟩:=qnm ((((((((((w9.setCell ⟨N,0,none⟩ (.int .i64 (n : Int))).setCell ⟨N,1,none⟩ (.int .i64 (pn : Int))).setCell ⟨N,2,none⟩ (.int .i64 (g : Int))).setCell ⟨N,3,none⟩ (.slice ia 16 ic)).setCell ⟨N,4,none⟩ (.int .u64 (P.m.gen : Int))).setCell ⟨N,5,none⟩ (.int .u64 (q : Int))).setCell ⟨N,6,none⟩ (.int .i64 (fr : Int))).setCell ⟨N,7,none⟩ (.int .i64 0)).setCell ⟨N,8,none⟩ (.slice hha 32 hhc)))
    rw [<- hwl] at hch hfs ⊢
    have HL:=qh (aI hbe9 (aI hzN (aI hch hfs)))
    clear hbe9 hzN hzl hch hfs hwl z0 f0 z1 f1 z2 f2 z3 f3 z4 f4 z5 f5 z6 f6 z7 f7 z8 f8
    refine hK.out _ _ (fun h => by simp at h) ?_
    clear hK K
    refine qfr 7 5 ?_
    simp only [qz0,qz1]
    refine qdon ?_
    clear hHeld
    obtain ⟨z0,z1,z2,z3,z4,z5,z6,z7,z8⟩:=fd_cells (n:=n) (pn:=pn) (g:=g) (gen:=P.m.gen) (seq:=q) (sgs:=fr) (rcs:=0) (iv:=.slice ia 16 ic) (hv:=.slice hha 32 hhc) HL.out.2.2.2
    go_wp2_with fail
    refine bodyPost_ret (v:=.tuple #[.pointer (some ⟨s9,0,none⟩),.pointer (some ⟨l,0,none⟩),fndV n pn g (.slice ia 16 ic) P.m.gen q fr 0 (.slice hha 32 hhc),.int .i64 0]) (by simp [results,Tryz.results27,go_sem,fndV,z0,z1,z2,z3,z4,z5,z6,z7,z8]) rfl ?_
    obtain ⟨x1,x2,x3,x4,x5⟩:=HEND.out s9 w9 wl H9.out.1 H9.out.2 HL.out.1 HL.out.2.1 HL.out.2.2.1
    rw [<- HQ1.out.1,<- HQ1.out.2]
    exact ⟨s9,l,_,_,rfl,by have:=HSZ.out; have:=HW.out.2.1.size; omega,x1,x2,x3,x4,x5⟩
  ·go_simp
   obtain ⟨wa,hwa⟩:=qnm (we.alloc (.cells #[.int .i64 0,.int .i64 0,.int .i64 0,.slice none 0 0,.int .u64 0,.int .u64 0,.int .i64 0,.int .i64 0,.slice none 0 0] TFound))
   have hba:=qba hwa
   obtain ⟨A,hA⟩:=qnm we.heap.size
   have hza : wa.heap[A]? = some (.cells (fndA 0 0 0 (.slice none 0 0) 0 0 0 0 (.slice none 0 0)) TFound (0,0)):=by rw [hwa,hA]; exact heap_alloc_new _ _
   have HZA:=qh (aI hza (show we.heap.size <= A from by rw [hA]; exact HBT.out.size))
   have hbt:=HBT.out.trans (hba.mono HBT.out.size)
   clear HBT
   have HBT:=qh hbt
   have hHeld:=HCE.out _ hbt
   rw [<- hwa,<- hA]
   clear hbt hba hza hwa hA
   refine hK.out _ _ (fun _ => hHeld) ?_
   clear hK K
   refine qone 9 fun K hK => ?_
   go_simp
   refine (HHD.out wa HBT.out).mono ?_
   rintro e wh ⟨⟨vh,rfl,hoh⟩,hbh⟩
   obtain ⟨hha,hhc,rfl,_⟩:=hoh.bsn (n:=32) HHL.out
   have hbt:=HBT.out.trans (hbh.mono HBT.out.size)
   have HOH:=qh (hoh.base HBT.out.size)
   have hza2:=(hbh.block A (ltH HZA.out.1)).trans HZA.out.1
   have hage:=HZA.out.2
   clear HZA
   have HZA:=qh (aI hza2 hage)
   clear hza2 hage
   clear HBT
   have HBT:=qh hbt
   have hHeld:=HCE.out _ hbt
   clear hoh hbh hbt
   go_wp2_with fail
   refine hK.out _ _ (fun _ => hHeld) ?_
   clear hK K
   refine qtk 10 81 ?_
   simp only [qz0,qz1]
   refine qone 12 fun K hK => ?_
   obtain ⟨hza,hage⟩:=HZA.out
   have z0 : wh.cell? ⟨A,0,none⟩ = some (.int .i64 0):=cells_at hza 0
   have f0:=frz_of hza 0
   have z1 : wh.cell? ⟨A,1,none⟩ = some (.int .i64 0):=cells_at hza 1
   have f1:=frz_of hza 1
   have z2 : wh.cell? ⟨A,2,none⟩ = some (.int .i64 0):=cells_at hza 2
   have f2:=frz_of hza 2
   have z3 : wh.cell? ⟨A,3,none⟩ = some (.slice none 0 0):=cells_at hza 3
   have f3:=frz_of hza 3
   have z4 : wh.cell? ⟨A,4,none⟩ = some (.int .u64 0):=cells_at hza 4
   have f4:=frz_of hza 4
   have z5 : wh.cell? ⟨A,5,none⟩ = some (.int .u64 0):=cells_at hza 5
   have f5:=frz_of hza 5
   have z6 : wh.cell? ⟨A,6,none⟩ = some (.int .i64 0):=cells_at hza 6
   have f6:=frz_of hza 6
   have z7 : wh.cell? ⟨A,7,none⟩ = some (.int .i64 0):=cells_at hza 7
   have f7:=frz_of hza 7
   have z8 : wh.cell? ⟨A,8,none⟩ = some (.slice none 0 0):=cells_at hza 8
   have f8:=frz_of hza 8
   have hzl:=ltH hza
   go_simp
   have hch:=chg9 wh A (.int .i64 (n : Int)) (.int .i64 (pn : Int)) (.int .i64 (g : Int)) (.slice ia 16 ic) (.int .u64 (P.m.gen : Int)) (.int .u64 (q : Int)) (.int .i64 (fr : Int)) (.int .i64 0) (.slice hha 32 hhc)
   have hfs:=fnd_store hza (.int .i64 (n : Int)) (.int .i64 (pn : Int)) (.int .i64 (g : Int)) (.slice ia 16 ic) (.int .u64 (P.m.gen : Int)) (.int .u64 (q : Int)) (.int .i64 (fr : Int)) (.int .i64 0) (.slice hha 32 hhc)
   obtain ⟨wf,hwf⟩:=qnm ((((((((((wh.setCell ⟨A,0,none⟩ (.int .i64 (n : Int))).setCell ⟨A,1,none⟩ (.int .i64 (pn : Int))).setCell ⟨A,2,none⟩ (.int .i64 (g : Int))).setCell ⟨A,3,none⟩ (.slice ia 16 ic)).setCell ⟨A,4,none⟩ (.int .u64 (P.m.gen : Int))).setCell ⟨A,5,none⟩ (.int .u64 (q : Int))).setCell ⟨A,6,none⟩ (.int .i64 (fr : Int))).setCell ⟨A,7,none⟩ (.int .i64 0)).setCell ⟨A,8,none⟩ (.slice hha 32 hhc)))
   rw [<- hwf] at hch hfs ⊢
   have hbt:=HBT.out.trans (hch.below HBT.out.size (fun k _ e => by omega))
   have hof:=own_set hch hza (by decide) HOH.out
   have HF:=qh (aI hbt (aI hfs (aI hof hage)))
   clear hza hage hzl hch hfs hbt hof hwf z0 f0 z1 f1 z2 f2 z3 f3 z4 f4 z5 f5 z6 f6 z7 f7 z8 f8
   refine hK.out _ _ (fun h => by simp at h) ?_
   clear hK K
   refine qdon ?_
   clear hHeld HHD HSE HCE HBT HZA HOH
   have HCC:=qh (concat0_any wf)
   go_wp2_with fail
   refine HCC.out.mono ?_
   rintro e w8 ⟨rfl,hb8⟩
   have HB8:=qh hb8
   clear hb8 HCC
   go_wp2_with fail
   go_loopw [10,11,85] (fun a b i wr => a = .pointer (some ⟨st,0,none⟩) /\ b = .bool true /\ i = .int .i64 0 /\ wr = w8) (fun _ _ _ _ => 0)
   case atStart => exact ⟨rfl,rfl,rfl,rfl⟩
   case round =>
    obtain ⟨rfl,rfl,rfl,rfl⟩:=hrel
    go_upto_region 22 with fail
    obtain ⟨wg,hwg⟩:=qnm wr.drew
    obtain ⟨hbt,hfs,hof,hage⟩:=HF.out
    have hbfg : Below wf.heap.size wf wg:=by rw [hwg]; exact HB8.out.drew
    have hbeg:=hbt.trans (hbfg.mono hbt.size)
    have hfag:=(hbfg.block A (ltH hfs)).trans hfs
    obtain ⟨hbe,hLe,hPt,hoi,hzNe⟩:=HE.out
    have hPg:=(hPt.below (Nat.le_trans HSZ.out.2.1 HSZ.out.2.2.1) hbeg).2
    have HST:=qh (mount_settled hPg HG.out.1 HG.out.2.1 (by have:=HSZ.out; have:=hbeg.size; omega))
    have HFA:=qh hfag
    have HBG:=qh hbeg
    have HEND:=qh (show ∀ s9 w9 wl,StAt w9 w2.heap.size w2.heap.size w9.heap.size s9 P.st -> Below wg.heap.size wg w9 -> Below we.heap.size we w9 -> w9.heap[N]? = some (.cells (fndA 0 0 0 (.slice none 0 0) 0 0 0 0 (.slice none 0 0)) TFound (0,0)) -> Chg (fun k => k = N) w9 wl -> _ from fun s9 w9 wl hs9 hb9 hbe9 hzN hch => by
     have hf9:=hbfg.trans (hb9.mono hbfg.size)
     have hsz:=HSZ.out
     have hNw:=HW.out.2.2.2
     have hbw9:=hbe.trans (hbe9.mono hbe.size)
     have hw0s:=HW.out.2.1.size
     exact (show (∃ lh,LogIn wl w.heap.size l d n pn g lh (.slice none 0 0) (openM fr id P.m.head q1)) /\ (∃ hh,Own wl w.heap.size (.slice hha 32 hhc) hh /\ hh.length = 32) /\ Own wl w.heap.size (.slice ia 16 ic) id /\ StAt wl w.heap.size w.heap.size w.heap.size s9 P.st /\ Below w.heap.size w wl from
      ⟨⟨hlv,((hLe.below hbe9).far hl5 hch (fun k e => by omega)).base0 rfl (by omega)⟩,⟨_,(own_set hch hzN (by decide) (hof.below hf9)).base (by omega),HHL.out⟩,(own_set hch hzN (by decide) (hoi.below hbe9)).base (by omega),(hs9.alien hch (fun k _ e => .inl (by omega))).any0 HG.out.1.sn.no (fun _ => rfl) (by omega) (by omega),hbw9.trans (hch.below hbw9.size (fun k _ e => by omega))⟩))
    clear hbt hfs hof hage hbfg hbeg hfag hbe hLe hPt hoi hzNe hPg HF
    refine heldB_start (fun i => [0,1,2,3,4,5].contains i) (fun w' => w'.cell? ⟨A,0,none⟩ = some (.int .i64 (n : Int)) /\ w'.cell? ⟨A,1,none⟩ = some (.int .i64 (pn : Int)) /\ w'.cell? ⟨A,2,none⟩ = some (.int .i64 (g : Int)) /\ w'.cell? ⟨A,3,none⟩ = some (.slice ia 16 ic) /\ w'.cell? ⟨A,4,none⟩ = some (.int .u64 (P.m.gen : Int)) /\ w'.cell? ⟨A,5,none⟩ = some (.int .u64 (q : Int)) /\ w'.cell? ⟨A,6,none⟩ = some (.int .i64 (fr : Int)) /\ w'.cell? ⟨A,7,none⟩ = some (.int .i64 0) /\ w'.cell? ⟨A,8,none⟩ = some (.slice hha 32 hhc)) (by kernel_rfl) ?_ (fun hHeld => ?_)
    ·rw [<- hwg]; exact fd_cells HFA.out
    rw [<- hwg] at hHeld ⊢
    clear hwg
    refine qtk 0 106 ?_
    simp only [qz0,qz1]
    refine qtk 2 108 ?_
    simp only [qz0,qz1]
    refine qtk 3 109 ?_
    simp only [qz0,qz1]
    refine qone 1 fun K hK => ?_
    go_simp
    refine HST.out.mono ?_
    rintro e w9 ⟨s9,rfl,hs9,hb9⟩
    have hfa9:=(hb9.block A (ltH HFA.out)).trans HFA.out
    have hHeld:=fd_cells hfa9
    have H9:=qh (aI hs9 hb9)
    clear hs9 hb9 hfa9
    go_wp2_with fail
    refine hK.out _ _ (fun _ => hHeld) ?_
    clear hK K
    refine qtk 4 2 ?_
    simp only [qz0,qz1]
    refine qtk 5 3 ?_
    simp only [qz0,qz1]
    refine qone 6 fun K hK => ?_
    have hbe9:=HBG.out.trans (H9.out.2.mono HBG.out.size)
    have hzN:=(hbe9.block N (ltH HE.out.2.2.2.2)).trans HE.out.2.2.2.2
    have z0 : w9.cell? ⟨N,0,none⟩ = some (.int .i64 0):=cells_at hzN 0
    have f0:=frz_of hzN 0
    have z1 : w9.cell? ⟨N,1,none⟩ = some (.int .i64 0):=cells_at hzN 1
    have f1:=frz_of hzN 1
    have z2 : w9.cell? ⟨N,2,none⟩ = some (.int .i64 0):=cells_at hzN 2
    have f2:=frz_of hzN 2
    have z3 : w9.cell? ⟨N,3,none⟩ = some (.slice none 0 0):=cells_at hzN 3
    have f3:=frz_of hzN 3
    have z4 : w9.cell? ⟨N,4,none⟩ = some (.int .u64 0):=cells_at hzN 4
    have f4:=frz_of hzN 4
    have z5 : w9.cell? ⟨N,5,none⟩ = some (.int .u64 0):=cells_at hzN 5
    have f5:=frz_of hzN 5
    have z6 : w9.cell? ⟨N,6,none⟩ = some (.int .i64 0):=cells_at hzN 6
    have f6:=frz_of hzN 6
    have z7 : w9.cell? ⟨N,7,none⟩ = some (.int .i64 0):=cells_at hzN 7
    have f7:=frz_of hzN 7
    have z8 : w9.cell? ⟨N,8,none⟩ = some (.slice none 0 0):=cells_at hzN 8
    have f8:=frz_of hzN 8
    have hzl:=ltH hzN
    go_simp
    have hch:=chg9 w9 N (.int .i64 (n : Int)) (.int .i64 (pn : Int)) (.int .i64 (g : Int)) (.slice ia 16 ic) (.int .u64 (P.m.gen : Int)) (.int .u64 (q : Int)) (.int .i64 (fr : Int)) (.int .i64 0) (.slice hha 32 hhc)
    have hfs:=fnd_store hzN (.int .i64 (n : Int)) (.int .i64 (pn : Int)) (.int .i64 (g : Int)) (.slice ia 16 ic) (.int .u64 (P.m.gen : Int)) (.int .u64 (q : Int)) (.int .i64 (fr : Int)) (.int .i64 0) (.slice hha 32 hhc)
    obtain ⟨wl,hwl⟩:=qnm ((((((((((w9.setCell ⟨N,0,none⟩ (.int .i64 (n : Int))).setCell ⟨N,1,none⟩ (.int .i64 (pn : Int))).setCell ⟨N,2,none⟩ (.int .i64 (g : Int))).setCell ⟨N,3,none⟩ (.slice ia 16 ic)).setCell ⟨N,4,none⟩ (.int .u64 (P.m.gen : Int))).setCell ⟨N,5,none⟩ (.int .u64 (q : Int))).setCell ⟨N,6,none⟩ (.int .i64 (fr : Int))).setCell ⟨N,7,none⟩ (.int .i64 0)).setCell ⟨N,8,none⟩ (.slice hha 32 hhc)))
    rw [<- hwl] at hch hfs ⊢
    have HL:=qh (aI hbe9 (aI hzN (aI hch hfs)))
    clear hbe9 hzN hzl hch hfs hwl z0 f0 z1 f1 z2 f2 z3 f3 z4 f4 z5 f5 z6 f6 z7 f7 z8 f8
    refine hK.out _ _ (fun h => by simp at h) ?_
    clear hK K
    refine qfr 7 5 ?_
    simp only [qz0,qz1]
    refine qdon ?_
    clear hHeld
    obtain ⟨z0,z1,z2,z3,z4,z5,z6,z7,z8⟩:=fd_cells (n:=n) (pn:=pn) (g:=g) (gen:=P.m.gen) (seq:=q) (sgs:=fr) (rcs:=0) (iv:=.slice ia 16 ic) (hv:=.slice hha 32 hhc) HL.out.2.2.2
    go_wp2_with fail
    refine bodyPost_ret (v:=.tuple #[.pointer (some ⟨s9,0,none⟩),.pointer (some ⟨l,0,none⟩),fndV n pn g (.slice ia 16 ic) P.m.gen q fr 0 (.slice hha 32 hhc),.int .i64 0]) (by simp [results,Tryz.results27,go_sem,fndV,z0,z1,z2,z3,z4,z5,z6,z7,z8]) rfl ?_
    obtain ⟨x1,x2,x3,x4,x5⟩:=HEND.out s9 w9 wl H9.out.1 H9.out.2 HL.out.1 HL.out.2.1 HL.out.2.2.1
    rw [<- HQ1.out.1,<- HQ1.out.2]
    exact ⟨s9,l,_,_,rfl,by have:=HSZ.out; have:=HW.out.2.1.size; omega,x1,x2,x3,x4,x5⟩
 ·go_simp
  obtain ⟨wa,hwa⟩:=qnm (we.alloc (.cells #[.int .i64 0,.int .i64 0,.int .i64 0,.slice none 0 0,.int .u64 0,.int .u64 0,.int .i64 0,.int .i64 0,.slice none 0 0] TFound))
  have hba:=qba hwa
  obtain ⟨A,hA⟩:=qnm we.heap.size
  have hza : wa.heap[A]? = some (.cells (fndA 0 0 0 (.slice none 0 0) 0 0 0 0 (.slice none 0 0)) TFound (0,0)):=by rw [hwa,hA]; exact heap_alloc_new _ _
  have HZA:=qh (aI hza (show we.heap.size <= A from by rw [hA]; exact HBT.out.size))
  have hbt:=HBT.out.trans (hba.mono HBT.out.size)
  clear HBT
  have HBT:=qh hbt
  have hHeld:=HCE.out _ hbt
  rw [<- hwa,<- hA]
  clear hbt hba hza hwa hA
  refine hK.out _ _ (fun _ => hHeld) ?_
  clear hK K
  refine qone 7 fun K hK => ?_
  go_simp
  refine (HSE.out wa HBT.out).mono ?_
  rintro e wq ⟨rfl,hwq⟩
  rw [hwq]
  clear hwq wq
  go_wp2_with fail
  refine hK.out _ _ (fun _ => hHeld) ?_
  clear hK K
  refine qone 9 fun K hK => ?_
  go_simp
  refine (HHD.out wa HBT.out).mono ?_
  rintro e wh ⟨⟨vh,rfl,hoh⟩,hbh⟩
  obtain ⟨hha,hhc,rfl,_⟩:=hoh.bsn (n:=32) HHL.out
  have hbt:=HBT.out.trans (hbh.mono HBT.out.size)
  have HOH:=qh (hoh.base HBT.out.size)
  have hza2:=(hbh.block A (ltH HZA.out.1)).trans HZA.out.1
  have hage:=HZA.out.2
  clear HZA
  have HZA:=qh (aI hza2 hage)
  clear hza2 hage
  clear HBT
  have HBT:=qh hbt
  have hHeld:=HCE.out _ hbt
  clear hoh hbh hbt
  go_wp2_with fail
  refine hK.out _ _ (fun _ => hHeld) ?_
  clear hK K
  refine qtk 10 81 ?_
  simp only [qz0,qz1]
  refine qone 12 fun K hK => ?_
  obtain ⟨hza,hage⟩:=HZA.out
  have z0 : wh.cell? ⟨A,0,none⟩ = some (.int .i64 0):=cells_at hza 0
  have f0:=frz_of hza 0
  have z1 : wh.cell? ⟨A,1,none⟩ = some (.int .i64 0):=cells_at hza 1
  have f1:=frz_of hza 1
  have z2 : wh.cell? ⟨A,2,none⟩ = some (.int .i64 0):=cells_at hza 2
  have f2:=frz_of hza 2
  have z3 : wh.cell? ⟨A,3,none⟩ = some (.slice none 0 0):=cells_at hza 3
  have f3:=frz_of hza 3
  have z4 : wh.cell? ⟨A,4,none⟩ = some (.int .u64 0):=cells_at hza 4
  have f4:=frz_of hza 4
  have z5 : wh.cell? ⟨A,5,none⟩ = some (.int .u64 0):=cells_at hza 5
  have f5:=frz_of hza 5
  have z6 : wh.cell? ⟨A,6,none⟩ = some (.int .i64 0):=cells_at hza 6
  have f6:=frz_of hza 6
  have z7 : wh.cell? ⟨A,7,none⟩ = some (.int .i64 0):=cells_at hza 7
  have f7:=frz_of hza 7
  have z8 : wh.cell? ⟨A,8,none⟩ = some (.slice none 0 0):=cells_at hza 8
  have f8:=frz_of hza 8
  have hzl:=ltH hza
  go_simp
  have hch:=chg9 wh A (.int .i64 (n : Int)) (.int .i64 (pn : Int)) (.int .i64 (g : Int)) (.slice ia 16 ic) (.int .u64 (P.m.gen : Int)) (.int .u64 (q : Int)) (.int .i64 (fr : Int)) (.int .i64 0) (.slice hha 32 hhc)
  have hfs:=fnd_store hza (.int .i64 (n : Int)) (.int .i64 (pn : Int)) (.int .i64 (g : Int)) (.slice ia 16 ic) (.int .u64 (P.m.gen : Int)) (.int .u64 (q : Int)) (.int .i64 (fr : Int)) (.int .i64 0) (.slice hha 32 hhc)
  obtain ⟨wf,hwf⟩:=qnm ((((((((((wh.setCell ⟨A,0,none⟩ (.int .i64 (n : Int))).setCell ⟨A,1,none⟩ (.int .i64 (pn : Int))).setCell ⟨A,2,none⟩ (.int .i64 (g : Int))).setCell ⟨A,3,none⟩ (.slice ia 16 ic)).setCell ⟨A,4,none⟩ (.int .u64 (P.m.gen : Int))).setCell ⟨A,5,none⟩ (.int .u64 (q : Int))).setCell ⟨A,6,none⟩ (.int .i64 (fr : Int))).setCell ⟨A,7,none⟩ (.int .i64 0)).setCell ⟨A,8,none⟩ (.slice hha 32 hhc)))
  rw [<- hwf] at hch hfs ⊢
  have hbt:=HBT.out.trans (hch.below HBT.out.size (fun k _ e => by omega))
  have hof:=own_set hch hza (by decide) HOH.out
  have HF:=qh (aI hbt (aI hfs (aI hof hage)))
  clear hza hage hzl hch hfs hbt hof hwf z0 f0 z1 f1 z2 f2 z3 f3 z4 f4 z5 f5 z6 f6 z7 f7 z8 f8
  refine hK.out _ _ (fun h => by simp at h) ?_
  clear hK K
  refine qdon ?_
  clear hHeld HHD HSE HCE HBT HZA HOH
  have HCC:=qh (concat0_any wf)
  go_wp2_with fail
  refine HCC.out.mono ?_
  rintro e w8 ⟨rfl,hb8⟩
  have HB8:=qh hb8
  clear hb8 HCC
  go_wp2_with fail
  go_loopw [10,11,85] (fun a b i wr => a = .pointer (some ⟨st,0,none⟩) /\ b = .bool true /\ i = .int .i64 0 /\ wr = w8) (fun _ _ _ _ => 0)
  case atStart => exact ⟨rfl,rfl,rfl,rfl⟩
  case round =>
   obtain ⟨rfl,rfl,rfl,rfl⟩:=hrel
   go_upto_region 22 with fail
   obtain ⟨wg,hwg⟩:=qnm wr.drew
   obtain ⟨hbt,hfs,hof,hage⟩:=HF.out
   have hbfg : Below wf.heap.size wf wg:=by rw [hwg]; exact HB8.out.drew
   have hbeg:=hbt.trans (hbfg.mono hbt.size)
   have hfag:=(hbfg.block A (ltH hfs)).trans hfs
   obtain ⟨hbe,hLe,hPt,hoi,hzNe⟩:=HE.out
   have hPg:=(hPt.below (Nat.le_trans HSZ.out.2.1 HSZ.out.2.2.1) hbeg).2
   have HST:=qh (mount_settled hPg HG.out.1 HG.out.2.1 (by have:=HSZ.out; have:=hbeg.size; omega))
   have HFA:=qh hfag
   have HBG:=qh hbeg
   have HEND:=qh (show ∀ s9 w9 wl,StAt w9 w2.heap.size w2.heap.size w9.heap.size s9 P.st -> Below wg.heap.size wg w9 -> Below we.heap.size we w9 -> w9.heap[N]? = some (.cells (fndA 0 0 0 (.slice none 0 0) 0 0 0 0 (.slice none 0 0)) TFound (0,0)) -> Chg (fun k => k = N) w9 wl -> _ from fun s9 w9 wl hs9 hb9 hbe9 hzN hch => by
    have hf9:=hbfg.trans (hb9.mono hbfg.size)
    have hsz:=HSZ.out
    have hNw:=HW.out.2.2.2
    have hbw9:=hbe.trans (hbe9.mono hbe.size)
    have hw0s:=HW.out.2.1.size
    exact (show (∃ lh,LogIn wl w.heap.size l d n pn g lh (.slice none 0 0) (openM fr id P.m.head q1)) /\ (∃ hh,Own wl w.heap.size (.slice hha 32 hhc) hh /\ hh.length = 32) /\ Own wl w.heap.size (.slice ia 16 ic) id /\ StAt wl w.heap.size w.heap.size w.heap.size s9 P.st /\ Below w.heap.size w wl from
     ⟨⟨hlv,((hLe.below hbe9).far hl5 hch (fun k e => by omega)).base0 rfl (by omega)⟩,⟨_,(own_set hch hzN (by decide) (hof.below hf9)).base (by omega),HHL.out⟩,(own_set hch hzN (by decide) (hoi.below hbe9)).base (by omega),(hs9.alien hch (fun k _ e => .inl (by omega))).any0 HG.out.1.sn.no (fun _ => rfl) (by omega) (by omega),hbw9.trans (hch.below hbw9.size (fun k _ e => by omega))⟩))
   clear hbt hfs hof hage hbfg hbeg hfag hbe hLe hPt hoi hzNe hPg HF
   refine heldB_start (fun i => [0,1,2,3,4,5].contains i) (fun w' => w'.cell? ⟨A,0,none⟩ = some (.int .i64 (n : Int)) /\ w'.cell? ⟨A,1,none⟩ = some (.int .i64 (pn : Int)) /\ w'.cell? ⟨A,2,none⟩ = some (.int .i64 (g : Int)) /\ w'.cell? ⟨A,3,none⟩ = some (.slice ia 16 ic) /\ w'.cell? ⟨A,4,none⟩ = some (.int .u64 (P.m.gen : Int)) /\ w'.cell? ⟨A,5,none⟩ = some (.int .u64 (q : Int)) /\ w'.cell? ⟨A,6,none⟩ = some (.int .i64 (fr : Int)) /\ w'.cell? ⟨A,7,none⟩ = some (.int .i64 0) /\ w'.cell? ⟨A,8,none⟩ = some (.slice hha 32 hhc)) (by kernel_rfl) ?_ (fun hHeld => ?_)
   ·rw [<- hwg]; exact fd_cells HFA.out
   rw [<- hwg] at hHeld ⊢
   clear hwg
   refine qtk 0 106 ?_
   simp only [qz0,qz1]
   refine qtk 2 108 ?_
   simp only [qz0,qz1]
   refine qtk 3 109 ?_
   simp only [qz0,qz1]
   refine qone 1 fun K hK => ?_
   go_simp
   refine HST.out.mono ?_
   rintro e w9 ⟨s9,rfl,hs9,hb9⟩
   have hfa9:=(hb9.block A (ltH HFA.out)).trans HFA.out
   have hHeld:=fd_cells hfa9
   have H9:=qh (aI hs9 hb9)
   clear hs9 hb9 hfa9
   go_wp2_with fail
   refine hK.out _ _ (fun _ => hHeld) ?_
   clear hK K
   refine qtk 4 2 ?_
   simp only [qz0,qz1]
   refine qtk 5 3 ?_
   simp only [qz0,qz1]
   refine qone 6 fun K hK => ?_
   have hbe9:=HBG.out.trans (H9.out.2.mono HBG.out.size)
   have hzN:=(hbe9.block N (ltH HE.out.2.2.2.2)).trans HE.out.2.2.2.2
   have z0 : w9.cell? ⟨N,0,none⟩ = some (.int .i64 0):=cells_at hzN 0
   have f0:=frz_of hzN 0
   have z1 : w9.cell? ⟨N,1,none⟩ = some (.int .i64 0):=cells_at hzN 1
   have f1:=frz_of hzN 1
   have z2 : w9.cell? ⟨N,2,none⟩ = some (.int .i64 0):=cells_at hzN 2
   have f2:=frz_of hzN 2
   have z3 : w9.cell? ⟨N,3,none⟩ = some (.slice none 0 0):=cells_at hzN 3
   have f3:=frz_of hzN 3
   have z4 : w9.cell? ⟨N,4,none⟩ = some (.int .u64 0):=cells_at hzN 4
   have f4:=frz_of hzN 4
   have z5 : w9.cell? ⟨N,5,none⟩ = some (.int .u64 0):=cells_at hzN 5
   have f5:=frz_of hzN 5
   have z6 : w9.cell? ⟨N,6,none⟩ = some (.int .i64 0):=cells_at hzN 6
   have f6:=frz_of hzN 6
   have z7 : w9.cell? ⟨N,7,none⟩ = some (.int .i64 0):=cells_at hzN 7
   have f7:=frz_of hzN 7
   have z8 : w9.cell? ⟨N,8,none⟩ = some (.slice none 0 0):=cells_at hzN 8
   have f8:=frz_of hzN 8
   have hzl:=ltH hzN
   go_simp
   have hch:=chg9 w9 N (.int .i64 (n : Int)) (.int .i64 (pn : Int)) (.int .i64 (g : Int)) (.slice ia 16 ic) (.int .u64 (P.m.gen : Int)) (.int .u64 (q : Int)) (.int .i64 (fr : Int)) (.int .i64 0) (.slice hha 32 hhc)
   have hfs:=fnd_store hzN (.int .i64 (n : Int)) (.int .i64 (pn : Int)) (.int .i64 (g : Int)) (.slice ia 16 ic) (.int .u64 (P.m.gen : Int)) (.int .u64 (q : Int)) (.int .i64 (fr : Int)) (.int .i64 0) (.slice hha 32 hhc)
   obtain ⟨wl,hwl⟩:=qnm ((((((((((w9.setCell ⟨N,0,none⟩ (.int .i64 (n : Int))).setCell ⟨N,1,none⟩ (.int .i64 (pn : Int))).setCell ⟨N,2,none⟩ (.int .i64 (g : Int))).setCell ⟨N,3,none⟩ (.slice ia 16 ic)).setCell ⟨N,4,none⟩ (.int .u64 (P.m.gen : Int))).setCell ⟨N,5,none⟩ (.int .u64 (q : Int))).setCell ⟨N,6,none⟩ (.int .i64 (fr : Int))).setCell ⟨N,7,none⟩ (.int .i64 0)).setCell ⟨N,8,none⟩ (.slice hha 32 hhc)))
   rw [<- hwl] at hch hfs ⊢
   have HL:=qh (aI hbe9 (aI hzN (aI hch hfs)))
   clear hbe9 hzN hzl hch hfs hwl z0 f0 z1 f1 z2 f2 z3 f3 z4 f4 z5 f5 z6 f6 z7 f7 z8 f8
   refine hK.out _ _ (fun h => by simp at h) ?_
   clear hK K
   refine qfr 7 5 ?_
   simp only [qz0,qz1]
   refine qdon ?_
   clear hHeld
   obtain ⟨z0,z1,z2,z3,z4,z5,z6,z7,z8⟩:=fd_cells (n:=n) (pn:=pn) (g:=g) (gen:=P.m.gen) (seq:=q) (sgs:=fr) (rcs:=0) (iv:=.slice ia 16 ic) (hv:=.slice hha 32 hhc) HL.out.2.2.2
   go_wp2_with fail
   refine bodyPost_ret (v:=.tuple #[.pointer (some ⟨s9,0,none⟩),.pointer (some ⟨l,0,none⟩),fndV n pn g (.slice ia 16 ic) P.m.gen q fr 0 (.slice hha 32 hhc),.int .i64 0]) (by simp [results,Tryz.results27,go_sem,fndV,z0,z1,z2,z3,z4,z5,z6,z7,z8]) rfl ?_
   obtain ⟨x1,x2,x3,x4,x5⟩:=HEND.out s9 w9 wl H9.out.1 H9.out.2 HL.out.1 HL.out.2.1 HL.out.2.2.1
   rw [<- HQ1.out.1,<- HQ1.out.2]
   exact ⟨s9,l,_,_,rfl,by have:=HSZ.out; have:=HW.out.2.1.size; omega,x1,x2,x3,x4,x5⟩
end
end Go.Proofs.YtabdcphioccgnaaGreatDoor
