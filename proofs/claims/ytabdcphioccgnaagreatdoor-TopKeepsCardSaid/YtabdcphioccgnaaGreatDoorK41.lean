/- MSaveAll. -/
import Derived.Test.YtabdcphioccgnaaGreatDoorK40
set_option maxRecDepth 100000
set_option maxHeartbeats 8000000
namespace Go.Proofs.YtabdcphioccgnaaGreatDoor
section
open Go.RowKit Go.ChangeMaps Go.MapKept
theorem Own.bsAt {w : World} {B n k : Nat} {a : Option Addr} {xs : List UInt8} (h : Own w B (.slice a n k) xs) (hl : xs.length = n) : Bs w a n k xs:=by
 obtain ⟨aa,ca,hva,hBa⟩:=h.bsn (n:=n) hl
 injection hva with hva1 hva2 hva3
 subst hva1 hva3
 exact hBa
def SvM (w0 wx : World) (A g1 q sl : Nat) (H bs : List UInt8) : Prop:=∃ hha hhc sva svc,Below w0.heap.size w0 wx /\ wx.heap[A]? = some (.cells #[.int .u64 (g1 : Int),.int .u64 (q : Int),.int .i64 (sl : Int),.slice hha 32 hhc,.slice sva bs.length svc] TMark (0,0)) /\ Own wx w0.heap.size (.slice hha 32 hhc) H /\ Own wx w0.heap.size (.slice sva bs.length svc) bs /\ w0.heap.size <= A
theorem msaveall_ok {w : World} {B d sb mb n l s : Nat} {S : List UInt8} {M : LogM} {lh : Value} (hD : Dk w d sb mb n S nM) (g pn : Nat) (hp : isPlan (n : Int) (pn : Int) (g : Int)) (hn : 1 + 2 * pn <= n) (hL : LogIn w B l d n pn g lh (.slice none 0 0) M) (hw : M.wait = []) (hnx : 1 <= M.next) (hnx2 : M.next <= 1099511627776)
  (ia : Option Addr) (ic : Nat) (id : List UInt8) (hI : Bs w ia 16 ic id) (hia : ∀ ad,ia = some ad -> ad.block ≠ d /\ ad.block ≠ sb /\ ad.block ≠ mb) (gen0 seq0 : Nat) (sg0 rc0 : Int) (hv0 : Value) (bs : List UInt8) (hbl : bs.length + 94 <= 128 * pn)
  (hr : Mk.right ⟨gen0 + 1,M.next - 1,M.sealed,M.head,bs⟩ g)
  (HOP : ∀ W,Below w.heap.size w W -> Calls Tryz.prog 22 #[.pointer (some ⟨s,0,none⟩)] W fun e w' => (∃ a c,e = .returned (.slice a 0 c)) /\ Below W.heap.size W w')
  (HSV : ∀ W,Below w.heap.size w W -> Calls Tryz.prog 36 #[.pointer (some ⟨s,0,none⟩)] W fun e w' => ∃ v,e = .returned v /\ Own w' W.heap.size v bs /\ Below W.heap.size W w') :
  Calls Tryz.prog 24 #[.pointer (some ⟨d,0,none⟩),fndV n pn g (.slice ia 16 ic) gen0 seq0 sg0 rc0 hv0,.pointer (some ⟨s,0,none⟩),.pointer (some ⟨l,0,none⟩)] w fun e w' =>
   ∃ iv hv,e = .returned (.tuple #[fndV n pn g iv (gen0 + 1) (M.next - 1) M.sealed 0 hv,.int .i64 0]) /\ (Own w' w.heap.size iv id /\ Own w' w.heap.size hv M.head) /\
    (∃ S',Dk w' d sb mb n S' nM /\ ∀ i,i < n -> secOf S' i = sect S (layM nM (ptFirst pn (gen0 + 1)) (ptBytes pn ⟨gen0 + 1,M.next - 1,M.sealed,M.head,bs⟩) pn) i) /\ Chg (fun k => k = d ∨ k = sb ∨ k = mb) w w':=by
 have hhd : M.head.length = 32:=hr.2.2.2.2.2
 have hbd:=hp.bd
 have hn4 : n <= 4096:=hD.2.2.1
 have hlt:=hD.lt
 obtain ⟨m,hm⟩ : ∃ m : Mk,m = ⟨gen0 + 1,M.next - 1,M.sealed,M.head,bs⟩:=⟨_,rfl⟩
 obtain ⟨g1,hg1⟩:=qnm (gen0 + 1)
 obtain ⟨q,hq⟩:=qnm (M.next - 1)
 obtain ⟨nx,hnxe⟩:=qnm M.next
 obtain ⟨sl,hsl⟩:=qnm M.sealed
 have hg2 : gen0 + 1 <= 1099511627776:=hr.2.1
 rw [<- hm] at hr ⊢
 rw [<- hg1,<- hq,<- hsl] at hm ⊢
 have e1 : IntKind.u64.wrap ((gen0 : Int) + 1) = (g1 : Int):=by rw [IntWalk.u64_in _ (by omega)]; omega
 have e2 : IntKind.u64.wrap ((nx : Int) - 1) = (q : Int):=by rw [IntWalk.u64_in _ (by omega)]; omega
 have hLN:=fun W (hb : Below w.heap.size w W) => lnext_any (hL.below hb) (by rw [hw]; show M.next + 0 <= _; omega)
 have hLP:=fun W (hb : Below w.heap.size w W) => lpending_any (hL.below hb)
 have hLS:=fun W (hb : Below w.heap.size w W) => lsealed_any (hL.below hb)
 have hLH:=fun W (hb : Below w.heap.size w W) => lhead_any (hL.below hb) (by rw [hhd]; omega)
 simp only [hw,List.length_nil,Nat.add_zero,<- hnxe] at hLN
 simp only [hw,List.length_nil] at hLP
 simp only [<- hsl] at hLS
 obtain ⟨w0,hw0⟩:=qnm ((w.alloc (.cells #[.int .i64 (n : Int),.int .i64 (pn : Int),.int .i64 (g : Int),.slice ia 16 ic,.int .u64 (gen0 : Int),.int .u64 (seq0 : Int),.int .i64 sg0,.int .i64 rc0,hv0] TFound)).alloc (.cells #[.int .i64 0,.int .i64 0,.int .i64 0,.slice none 0 0,.int .u64 0,.int .u64 0,.int .i64 0,.int .i64 0,.slice none 0 0] TFound))
 have hb0 : Below w.heap.size w w0:=by rw [hw0]; exact (((Ext.refl w).alloc _).alloc _).1
 have hzb : w0.heap[w.heap.size]? = some (.cells (fndA n pn g (.slice ia 16 ic) gen0 seq0 sg0 rc0 hv0) TFound (0,0)):=by rw [hw0]; exact (Below.heap_alloc _ _ _ (by simp)).trans (heap_alloc_new w _)
 have hzr : w0.heap[w.heap.size + 1]? = some (.cells (fndA 0 0 0 (.slice none 0 0) 0 0 0 0 (.slice none 0 0)) TFound (0,0)):=by
  rw [hw0]
  have:=heap_alloc_new (w.alloc (.cells #[.int .i64 (n : Int),.int .i64 (pn : Int),.int .i64 (g : Int),.slice ia 16 ic,.int .u64 (gen0 : Int),.int .u64 (seq0 : Int),.int .i64 sg0,.int .i64 rc0,hv0] TFound)) (.cells #[.int .i64 0,.int .i64 0,.int .i64 0,.slice none 0 0,.int .u64 0,.int .u64 0,.int .i64 0,.int .i64 0,.slice none 0 0] TFound)
  rwa [World.size_alloc] at this
 obtain ⟨N,hN⟩:=qnm w.heap.size
 rw [<- hN] at hzb hzr
 have HLN:=qh hLN
 have HLP:=qh (hLP w0 hb0)
 have HLS:=qh hLS
 have HLH:=qh hLH
 have HHL:=qh hhd
 have HO:=qh (HOP w0 hb0)
 have HV:=qh HSV
 have HX:=qh (aI hD (aI hp (aI hn (aI hI (aI hia (aI hr (aI hbl hlt)))))))
 have HM:=qh (aI hm (aI hg1 (aI hq hn4)))
 have HW:=qh (aI hw0 (aI hb0 (aI hzb (aI hzr hN))))
 clear hD hp hn hL hw hnx hnx2 hI hia hbl hr HOP HSV hhd hbd hn4 hlt hm hg1 hq hnxe hsl hg2 hLN hLP hLS hLH hw0 hb0 hzb hzr hN
 unfold fndV
 go_enter Tryz.func24,Tryz.ntmps24
 go_upto_region 1 with fail
 rw [<- HW.out.1]
 rw [<- HW.out.2.2.2.2]
 go_wp2_with fail
 refine HLP.out.mono ?_
 rintro e wq ⟨rfl,hwq⟩
 rw [hwq]
 clear hwq wq
 go_wp2_with fail
 refine HO.out.mono ?_
 rintro e w1 ⟨⟨oa,oc,rfl⟩,hb1⟩
 have HB1:=qh hb1
 clear hb1 HO HLP
 go_upto_region 5 with fail
 go_cut [10] (fun x wx => ∃ A,x = .pointer (some ⟨A,0,none⟩) /\ SvM w0 wx A g1 q sl M.head bs)
 case first =>
  obtain ⟨wd,hwd⟩:=qnm w1.drew
  have hbd : Below w0.heap.size w0 wd:=by rw [hwd]; exact HB1.out.drew
  have HBD:=qh hbd
  have HCB:=qh (fun W (hb : Below w0.heap.size w0 W) => (fd_cells ((hb.block N (ltH HW.out.2.2.1)).trans HW.out.2.2.1)).2.2.2.2.1)
  clear hbd HB1
  refine heldB_start (fun i => [0,1,2,3,4,5,6,7,8,9,10,11,12,13].contains i) (fun w' => w'.cell? ⟨N,4,none⟩ = some (.int .u64 (gen0 : Int))) (by kernel_rfl) ?_ (fun hHeld => ?_)
  ·rw [<- hwd]; exact HCB.out _ HBD.out
  rw [<- hwd] at hHeld ⊢
  clear hwd
  have HBT:=HBD
  clear HBD
  refine qtk 0 35 ?_
  simp only [qz0,qz1]
  refine qtk 1 36 ?_
  simp only [qz0,qz1]
  refine qtk 2 37 ?_
  simp only [qz0,qz1]
  refine qtk 3 38 ?_
  simp only [qz0,qz1]
  refine qtk 6 41 ?_
  simp only [qz0,qz1]
  refine qtk 8 43 ?_
  simp only [qz0,qz1]
  refine qtk 10 45 ?_
  simp only [qz0,qz1]
  refine heldB_two 4 13 (by kernel_rfl) rfl rfl (fun K hK => ?_) (fun K hK => ?_)
  ·go_simp
   refine (HLN.out wd (HW.out.2.1.trans (HBT.out.mono HW.out.2.1.size))).mono ?_
   rintro e wn ⟨rfl,hbn⟩
   have hbt:=HBT.out.trans (hbn.mono HBT.out.size)
   clear HBT
   have HBT:=qh hbt
   have hHeld:=HCB.out _ hbt
   clear hbt hbn
   go_wp2_with fail
   refine hK.out _ _ (fun _ => hHeld) ?_
   clear hK K
   refine qtk 5 40 ?_
   simp only [qz0,qz1]
   refine heldB_two 7 13 (by kernel_rfl) rfl rfl (fun K hK => ?_) (fun K hK => ?_)
   ·go_simp
    refine (HLS.out wn (HW.out.2.1.trans (HBT.out.mono HW.out.2.1.size))).mono ?_
    rintro e wq ⟨rfl,hwq⟩
    rw [hwq]
    clear hwq wq
    go_wp2_with fail
    refine hK.out _ _ (fun _ => hHeld) ?_
    clear hK K
    refine heldB_two 9 13 (by kernel_rfl) rfl rfl (fun K hK => ?_) (fun K hK => ?_)
    ·go_simp
     refine (HLH.out wn (HW.out.2.1.trans (HBT.out.mono HW.out.2.1.size))).mono ?_
     rintro e wh ⟨⟨vh,rfl,hoh⟩,hbh⟩
     obtain ⟨hha,hhc,rfl,_⟩:=hoh.bsn (n:=32) HHL.out
     have HOH:=qh (hoh.base HBT.out.size)
     clear hoh
     have hbt:=HBT.out.trans (hbh.mono HBT.out.size)
     clear HBT
     have HBT:=qh hbt
     have hHeld:=HCB.out _ hbt
     clear hbt hbh
     go_wp2_with fail
     refine hK.out _ _ (fun _ => hHeld) ?_
     clear hK K
     refine heldB_two 11 13 (by kernel_rfl) rfl rfl (fun K hK => ?_) (fun K hK => ?_)
     ·go_simp
      refine (HV.out wh (HW.out.2.1.trans (HBT.out.mono HW.out.2.1.size))).mono ?_
      rintro e ws ⟨vs,rfl,hos,hbs⟩
      obtain ⟨sva,svc,rfl,_⟩:=hos.bsn (n:=bs.length) rfl
      have HOS:=qh (hos.base HBT.out.size)
      clear hos
      have hbt:=HBT.out.trans (hbs.mono HBT.out.size)
      have hoh:=HOH.out.below hbs
      clear HOH
      have HOH:=qh hoh
      clear hoh
      clear HBT
      have HBT:=qh hbt
      have hHeld:=HCB.out _ hbt
      clear hbt hbs
      go_wp2_with fail
      refine hK.out _ _ (fun _ => hHeld) ?_
      clear hK K
      refine qtk 12 47 ?_
      simp only [qz0,qz1]
      refine qone 13 fun K hK => ?_
      go_simp
      obtain ⟨wa,hwa⟩:=qnm (ws.alloc (.cells #[.int .u64 0,.int .u64 0,.int .i64 0,.slice none 0 0,.slice none 0 0] TMark))
      have hba:=qba hwa
      obtain ⟨A,hA⟩:=qnm ws.heap.size
      have hza : wa.heap[A]? = some (.cells #[.int .u64 0,.int .u64 0,.int .i64 0,.slice none 0 0,.slice none 0 0] TMark (0,0)):=by rw [hwa,hA]; exact heap_alloc_new _ _
      have HZA:=qh (aI hza (show w0.heap.size <= A from by rw [hA]; exact HBT.out.size))
      rw [<- hwa,<- hA]
      clear hza hwa hA
      have hbt:=HBT.out.trans (hba.mono HBT.out.size)
      have hoh:=HOH.out.below hba
      clear HOH
      have HOH:=qh hoh
      clear hoh
      have hos:=HOS.out.below hba
      clear HOS
      have HOS:=qh hos
      clear hos
      clear HBT
      have HBT:=qh hbt
      have hHeld:=HCB.out _ hbt
      clear hbt hba
      refine hK.out _ _ (fun _ => hHeld) ?_
      clear hK K
      refine qone 14 fun K hK => ?_
      obtain ⟨hza,hage⟩:=HZA.out
      have z0 : wa.cell? ⟨A,0,none⟩ = some (.int .u64 0):=cells_at hza 0
      have f0:=frz_of hza 0
      have z1 : wa.cell? ⟨A,1,none⟩ = some (.int .u64 0):=cells_at hza 1
      have f1:=frz_of hza 1
      have z2 : wa.cell? ⟨A,2,none⟩ = some (.int .i64 0):=cells_at hza 2
      have f2:=frz_of hza 2
      have z3 : wa.cell? ⟨A,3,none⟩ = some (.slice none 0 0):=cells_at hza 3
      have f3:=frz_of hza 3
      have z4 : wa.cell? ⟨A,4,none⟩ = some (.slice none 0 0):=cells_at hza 4
      have f4:=frz_of hza 4
      have hzl:=ltH hza
      go_simp
      have hch:=chg5 wa A (.int .u64 (g1 : Int)) (.int .u64 (q : Int)) (.int .i64 (sl : Int)) (.slice hha 32 hhc) (.slice sva bs.length svc)
      have hfs:=cells_set (k:=4) (y:=(.slice sva bs.length svc)) (cells_set (k:=3) (y:=(.slice hha 32 hhc)) (cells_set (k:=2) (y:=(.int .i64 (sl : Int))) (cells_set (k:=1) (y:=(.int .u64 (q : Int))) (cells_set (k:=0) (y:=(.int .u64 (g1 : Int))) hza))))
      simp only [List.setIfInBounds_toArray,List.set_cons_zero,List.set_cons_succ] at hfs
      obtain ⟨w5,hw5⟩:=qnm ((((((wa.setCell ⟨A,0,none⟩ (.int .u64 (g1 : Int))).setCell ⟨A,1,none⟩ (.int .u64 (q : Int))).setCell ⟨A,2,none⟩ (.int .i64 (sl : Int))).setCell ⟨A,3,none⟩ (.slice hha 32 hhc)).setCell ⟨A,4,none⟩ (.slice sva bs.length svc)))
      rw [<- hw5] at hch hfs ⊢
      have hbt:=HBT.out.trans (hch.below HBT.out.size (fun k _ e => by omega))
      have H5:=qh (aI hbt (aI hfs (aI (own_set hch hza (by decide) HOH.out) (aI (own_set hch hza (by decide) HOS.out) hage))))
      clear hza hage hzl hch hfs hbt hw5 z0 f0 z1 f1 z2 f2 z3 f3 z4 f4
      refine hK.out _ _ (fun h => by simp at h) ?_
      clear hK K
      refine qdon ?_
      clear hHeld
      go_wp2_with fail
      go_meet
      exact ⟨A,rfl,hha,hhc,sva,svc,H5.out⟩
     ·go_simp
      obtain ⟨wa,hwa⟩:=qnm (wh.alloc (.cells #[.int .u64 0,.int .u64 0,.int .i64 0,.slice none 0 0,.slice none 0 0] TMark))
      have hba:=qba hwa
      obtain ⟨A,hA⟩:=qnm wh.heap.size
      have hza : wa.heap[A]? = some (.cells #[.int .u64 0,.int .u64 0,.int .i64 0,.slice none 0 0,.slice none 0 0] TMark (0,0)):=by rw [hwa,hA]; exact heap_alloc_new _ _
      have HZA:=qh (aI hza (show w0.heap.size <= A from by rw [hA]; exact HBT.out.size))
      rw [<- hwa,<- hA]
      clear hza hwa hA
      have hbt:=HBT.out.trans (hba.mono HBT.out.size)
      have hoh:=HOH.out.below hba
      clear HOH
      have HOH:=qh hoh
      clear hoh
      clear HBT
      have HBT:=qh hbt
      have hHeld:=HCB.out _ hbt
      clear hbt hba
      refine hK.out _ _ (fun _ => hHeld) ?_
      clear hK K
      refine qone 11 fun K hK => ?_
      go_simp
      refine (HV.out wa (HW.out.2.1.trans (HBT.out.mono HW.out.2.1.size))).mono ?_
      rintro e ws ⟨vs,rfl,hos,hbs⟩
      obtain ⟨sva,svc,rfl,_⟩:=hos.bsn (n:=bs.length) rfl
      have HOS:=qh (hos.base HBT.out.size)
      clear hos
      have hbt:=HBT.out.trans (hbs.mono HBT.out.size)
      have hoh:=HOH.out.below hbs
      clear HOH
      have HOH:=qh hoh
      clear hoh
      have hza:=(hbs.block A (ltH HZA.out.1)).trans HZA.out.1
      have hage:=HZA.out.2
      clear HZA
      have HZA:=qh (aI hza hage)
      clear hza hage
      clear HBT
      have HBT:=qh hbt
      have hHeld:=HCB.out _ hbt
      clear hbt hbs
      go_wp2_with fail
      refine hK.out _ _ (fun _ => hHeld) ?_
      clear hK K
      refine qtk 12 47 ?_
      simp only [qz0,qz1]
      refine qone 14 fun K hK => ?_
      obtain ⟨hza,hage⟩:=HZA.out
      have z0 : ws.cell? ⟨A,0,none⟩ = some (.int .u64 0):=cells_at hza 0
      have f0:=frz_of hza 0
      have z1 : ws.cell? ⟨A,1,none⟩ = some (.int .u64 0):=cells_at hza 1
      have f1:=frz_of hza 1
      have z2 : ws.cell? ⟨A,2,none⟩ = some (.int .i64 0):=cells_at hza 2
      have f2:=frz_of hza 2
      have z3 : ws.cell? ⟨A,3,none⟩ = some (.slice none 0 0):=cells_at hza 3
      have f3:=frz_of hza 3
      have z4 : ws.cell? ⟨A,4,none⟩ = some (.slice none 0 0):=cells_at hza 4
      have f4:=frz_of hza 4
      have hzl:=ltH hza
      go_simp
      have hch:=chg5 ws A (.int .u64 (g1 : Int)) (.int .u64 (q : Int)) (.int .i64 (sl : Int)) (.slice hha 32 hhc) (.slice sva bs.length svc)
      have hfs:=cells_set (k:=4) (y:=(.slice sva bs.length svc)) (cells_set (k:=3) (y:=(.slice hha 32 hhc)) (cells_set (k:=2) (y:=(.int .i64 (sl : Int))) (cells_set (k:=1) (y:=(.int .u64 (q : Int))) (cells_set (k:=0) (y:=(.int .u64 (g1 : Int))) hza))))
      simp only [List.setIfInBounds_toArray,List.set_cons_zero,List.set_cons_succ] at hfs
      obtain ⟨w5,hw5⟩:=qnm ((((((ws.setCell ⟨A,0,none⟩ (.int .u64 (g1 : Int))).setCell ⟨A,1,none⟩ (.int .u64 (q : Int))).setCell ⟨A,2,none⟩ (.int .i64 (sl : Int))).setCell ⟨A,3,none⟩ (.slice hha 32 hhc)).setCell ⟨A,4,none⟩ (.slice sva bs.length svc)))
      rw [<- hw5] at hch hfs ⊢
      have hbt:=HBT.out.trans (hch.below HBT.out.size (fun k _ e => by omega))
      have H5:=qh (aI hbt (aI hfs (aI (own_set hch hza (by decide) HOH.out) (aI (own_set hch hza (by decide) HOS.out) hage))))
      clear hza hage hzl hch hfs hbt hw5 z0 f0 z1 f1 z2 f2 z3 f3 z4 f4
      refine hK.out _ _ (fun h => by simp at h) ?_
      clear hK K
      refine qdon ?_
      clear hHeld
      go_wp2_with fail
      go_meet
      exact ⟨A,rfl,hha,hhc,sva,svc,H5.out⟩
    ·go_simp
     obtain ⟨wa,hwa⟩:=qnm (wn.alloc (.cells #[.int .u64 0,.int .u64 0,.int .i64 0,.slice none 0 0,.slice none 0 0] TMark))
     have hba:=qba hwa
     obtain ⟨A,hA⟩:=qnm wn.heap.size
     have hza : wa.heap[A]? = some (.cells #[.int .u64 0,.int .u64 0,.int .i64 0,.slice none 0 0,.slice none 0 0] TMark (0,0)):=by rw [hwa,hA]; exact heap_alloc_new _ _
     have HZA:=qh (aI hza (show w0.heap.size <= A from by rw [hA]; exact HBT.out.size))
     rw [<- hwa,<- hA]
     clear hza hwa hA
     have hbt:=HBT.out.trans (hba.mono HBT.out.size)
     clear HBT
     have HBT:=qh hbt
     have hHeld:=HCB.out _ hbt
     clear hbt hba
     refine hK.out _ _ (fun _ => hHeld) ?_
     clear hK K
     refine qone 9 fun K hK => ?_
     go_simp
     refine (HLH.out wa (HW.out.2.1.trans (HBT.out.mono HW.out.2.1.size))).mono ?_
     rintro e wh ⟨⟨vh,rfl,hoh⟩,hbh⟩
     obtain ⟨hha,hhc,rfl,_⟩:=hoh.bsn (n:=32) HHL.out
     have HOH:=qh (hoh.base HBT.out.size)
     clear hoh
     have hbt:=HBT.out.trans (hbh.mono HBT.out.size)
     have hza:=(hbh.block A (ltH HZA.out.1)).trans HZA.out.1
     have hage:=HZA.out.2
     clear HZA
     have HZA:=qh (aI hza hage)
     clear hza hage
     clear HBT
     have HBT:=qh hbt
     have hHeld:=HCB.out _ hbt
     clear hbt hbh
     go_wp2_with fail
     refine hK.out _ _ (fun _ => hHeld) ?_
     clear hK K
     refine qone 11 fun K hK => ?_
     go_simp
     refine (HV.out wh (HW.out.2.1.trans (HBT.out.mono HW.out.2.1.size))).mono ?_
     rintro e ws ⟨vs,rfl,hos,hbs⟩
     obtain ⟨sva,svc,rfl,_⟩:=hos.bsn (n:=bs.length) rfl
     have HOS:=qh (hos.base HBT.out.size)
     clear hos
     have hbt:=HBT.out.trans (hbs.mono HBT.out.size)
     have hoh:=HOH.out.below hbs
     clear HOH
     have HOH:=qh hoh
     clear hoh
     have hza:=(hbs.block A (ltH HZA.out.1)).trans HZA.out.1
     have hage:=HZA.out.2
     clear HZA
     have HZA:=qh (aI hza hage)
     clear hza hage
     clear HBT
     have HBT:=qh hbt
     have hHeld:=HCB.out _ hbt
     clear hbt hbs
     go_wp2_with fail
     refine hK.out _ _ (fun _ => hHeld) ?_
     clear hK K
     refine qtk 12 47 ?_
     simp only [qz0,qz1]
     refine qone 14 fun K hK => ?_
     obtain ⟨hza,hage⟩:=HZA.out
     have z0 : ws.cell? ⟨A,0,none⟩ = some (.int .u64 0):=cells_at hza 0
     have f0:=frz_of hza 0
     have z1 : ws.cell? ⟨A,1,none⟩ = some (.int .u64 0):=cells_at hza 1
     have f1:=frz_of hza 1
     have z2 : ws.cell? ⟨A,2,none⟩ = some (.int .i64 0):=cells_at hza 2
     have f2:=frz_of hza 2
     have z3 : ws.cell? ⟨A,3,none⟩ = some (.slice none 0 0):=cells_at hza 3
     have f3:=frz_of hza 3
     have z4 : ws.cell? ⟨A,4,none⟩ = some (.slice none 0 0):=cells_at hza 4
     have f4:=frz_of hza 4
     have hzl:=ltH hza
     go_simp
     have hch:=chg5 ws A (.int .u64 (g1 : Int)) (.int .u64 (q : Int)) (.int .i64 (sl : Int)) (.slice hha 32 hhc) (.slice sva bs.length svc)
     have hfs:=cells_set (k:=4) (y:=(.slice sva bs.length svc)) (cells_set (k:=3) (y:=(.slice hha 32 hhc)) (cells_set (k:=2) (y:=(.int .i64 (sl : Int))) (cells_set (k:=1) (y:=(.int .u64 (q : Int))) (cells_set (k:=0) (y:=(.int .u64 (g1 : Int))) hza))))
     simp only [List.setIfInBounds_toArray,List.set_cons_zero,List.set_cons_succ] at hfs
     obtain ⟨w5,hw5⟩:=qnm ((((((ws.setCell ⟨A,0,none⟩ (.int .u64 (g1 : Int))).setCell ⟨A,1,none⟩ (.int .u64 (q : Int))).setCell ⟨A,2,none⟩ (.int .i64 (sl : Int))).setCell ⟨A,3,none⟩ (.slice hha 32 hhc)).setCell ⟨A,4,none⟩ (.slice sva bs.length svc)))
     rw [<- hw5] at hch hfs ⊢
     have hbt:=HBT.out.trans (hch.below HBT.out.size (fun k _ e => by omega))
     have H5:=qh (aI hbt (aI hfs (aI (own_set hch hza (by decide) HOH.out) (aI (own_set hch hza (by decide) HOS.out) hage))))
     clear hza hage hzl hch hfs hbt hw5 z0 f0 z1 f1 z2 f2 z3 f3 z4 f4
     refine hK.out _ _ (fun h => by simp at h) ?_
     clear hK K
     refine qdon ?_
     clear hHeld
     go_wp2_with fail
     go_meet
     exact ⟨A,rfl,hha,hhc,sva,svc,H5.out⟩
   ·go_simp
    obtain ⟨wa,hwa⟩:=qnm (wn.alloc (.cells #[.int .u64 0,.int .u64 0,.int .i64 0,.slice none 0 0,.slice none 0 0] TMark))
    have hba:=qba hwa
    obtain ⟨A,hA⟩:=qnm wn.heap.size
    have hza : wa.heap[A]? = some (.cells #[.int .u64 0,.int .u64 0,.int .i64 0,.slice none 0 0,.slice none 0 0] TMark (0,0)):=by rw [hwa,hA]; exact heap_alloc_new _ _
    have HZA:=qh (aI hza (show w0.heap.size <= A from by rw [hA]; exact HBT.out.size))
    rw [<- hwa,<- hA]
    clear hza hwa hA
    have hbt:=HBT.out.trans (hba.mono HBT.out.size)
    clear HBT
    have HBT:=qh hbt
    have hHeld:=HCB.out _ hbt
    clear hbt hba
    refine hK.out _ _ (fun _ => hHeld) ?_
    clear hK K
    refine qone 7 fun K hK => ?_
    go_simp
    refine (HLS.out wa (HW.out.2.1.trans (HBT.out.mono HW.out.2.1.size))).mono ?_
    rintro e wq ⟨rfl,hwq⟩
    rw [hwq]
    clear hwq wq
    go_wp2_with fail
    refine hK.out _ _ (fun _ => hHeld) ?_
    clear hK K
    refine qone 9 fun K hK => ?_
    go_simp
    refine (HLH.out wa (HW.out.2.1.trans (HBT.out.mono HW.out.2.1.size))).mono ?_
    rintro e wh ⟨⟨vh,rfl,hoh⟩,hbh⟩
    obtain ⟨hha,hhc,rfl,_⟩:=hoh.bsn (n:=32) HHL.out
    have HOH:=qh (hoh.base HBT.out.size)
    clear hoh
    have hbt:=HBT.out.trans (hbh.mono HBT.out.size)
    have hza:=(hbh.block A (ltH HZA.out.1)).trans HZA.out.1
    have hage:=HZA.out.2
    clear HZA
    have HZA:=qh (aI hza hage)
    clear hza hage
    clear HBT
    have HBT:=qh hbt
    have hHeld:=HCB.out _ hbt
    clear hbt hbh
    go_wp2_with fail
    refine hK.out _ _ (fun _ => hHeld) ?_
    clear hK K
    refine qone 11 fun K hK => ?_
    go_simp
    refine (HV.out wh (HW.out.2.1.trans (HBT.out.mono HW.out.2.1.size))).mono ?_
    rintro e ws ⟨vs,rfl,hos,hbs⟩
    obtain ⟨sva,svc,rfl,_⟩:=hos.bsn (n:=bs.length) rfl
    have HOS:=qh (hos.base HBT.out.size)
    clear hos
    have hbt:=HBT.out.trans (hbs.mono HBT.out.size)
    have hoh:=HOH.out.below hbs
    clear HOH
    have HOH:=qh hoh
    clear hoh
    have hza:=(hbs.block A (ltH HZA.out.1)).trans HZA.out.1
    have hage:=HZA.out.2
    clear HZA
    have HZA:=qh (aI hza hage)
    clear hza hage
    clear HBT
    have HBT:=qh hbt
    have hHeld:=HCB.out _ hbt
    clear hbt hbs
    go_wp2_with fail
    refine hK.out _ _ (fun _ => hHeld) ?_
    clear hK K
    refine qtk 12 47 ?_
    simp only [qz0,qz1]
    refine qone 14 fun K hK => ?_
    obtain ⟨hza,hage⟩:=HZA.out
    have z0 : ws.cell? ⟨A,0,none⟩ = some (.int .u64 0):=cells_at hza 0
    have f0:=frz_of hza 0
    have z1 : ws.cell? ⟨A,1,none⟩ = some (.int .u64 0):=cells_at hza 1
    have f1:=frz_of hza 1
    have z2 : ws.cell? ⟨A,2,none⟩ = some (.int .i64 0):=cells_at hza 2
    have f2:=frz_of hza 2
    have z3 : ws.cell? ⟨A,3,none⟩ = some (.slice none 0 0):=cells_at hza 3
    have f3:=frz_of hza 3
    have z4 : ws.cell? ⟨A,4,none⟩ = some (.slice none 0 0):=cells_at hza 4
    have f4:=frz_of hza 4
    have hzl:=ltH hza
    go_simp
    have hch:=chg5 ws A (.int .u64 (g1 : Int)) (.int .u64 (q : Int)) (.int .i64 (sl : Int)) (.slice hha 32 hhc) (.slice sva bs.length svc)
    have hfs:=cells_set (k:=4) (y:=(.slice sva bs.length svc)) (cells_set (k:=3) (y:=(.slice hha 32 hhc)) (cells_set (k:=2) (y:=(.int .i64 (sl : Int))) (cells_set (k:=1) (y:=(.int .u64 (q : Int))) (cells_set (k:=0) (y:=(.int .u64 (g1 : Int))) hza))))
    simp only [List.setIfInBounds_toArray,List.set_cons_zero,List.set_cons_succ] at hfs
    obtain ⟨w5,hw5⟩:=qnm ((((((ws.setCell ⟨A,0,none⟩ (.int .u64 (g1 : Int))).setCell ⟨A,1,none⟩ (.int .u64 (q : Int))).setCell ⟨A,2,none⟩ (.int .i64 (sl : Int))).setCell ⟨A,3,none⟩ (.slice hha 32 hhc)).setCell ⟨A,4,none⟩ (.slice sva bs.length svc)))
    rw [<- hw5] at hch hfs ⊢
    have hbt:=HBT.out.trans (hch.below HBT.out.size (fun k _ e => by omega))
    have H5:=qh (aI hbt (aI hfs (aI (own_set hch hza (by decide) HOH.out) (aI (own_set hch hza (by decide) HOS.out) hage))))
    clear hza hage hzl hch hfs hbt hw5 z0 f0 z1 f1 z2 f2 z3 f3 z4 f4
    refine hK.out _ _ (fun h => by simp at h) ?_
    clear hK K
    refine qdon ?_
    clear hHeld
    go_wp2_with fail
    go_meet
    exact ⟨A,rfl,hha,hhc,sva,svc,H5.out⟩
  ·go_simp
   obtain ⟨wa,hwa⟩:=qnm (wd.alloc (.cells #[.int .u64 0,.int .u64 0,.int .i64 0,.slice none 0 0,.slice none 0 0] TMark))
   have hba:=qba hwa
   obtain ⟨A,hA⟩:=qnm wd.heap.size
   have hza : wa.heap[A]? = some (.cells #[.int .u64 0,.int .u64 0,.int .i64 0,.slice none 0 0,.slice none 0 0] TMark (0,0)):=by rw [hwa,hA]; exact heap_alloc_new _ _
   have HZA:=qh (aI hza (show w0.heap.size <= A from by rw [hA]; exact HBT.out.size))
   rw [<- hwa,<- hA]
   clear hza hwa hA
   have hbt:=HBT.out.trans (hba.mono HBT.out.size)
   clear HBT
   have HBT:=qh hbt
   have hHeld:=HCB.out _ hbt
   clear hbt hba
   refine hK.out _ _ (fun _ => hHeld) ?_
   clear hK K
   refine qone 4 fun K hK => ?_
   go_simp
   refine (HLN.out wa (HW.out.2.1.trans (HBT.out.mono HW.out.2.1.size))).mono ?_
   rintro e wn ⟨rfl,hbn⟩
   have hbt:=HBT.out.trans (hbn.mono HBT.out.size)
   have hza:=(hbn.block A (ltH HZA.out.1)).trans HZA.out.1
   have hage:=HZA.out.2
   clear HZA
   have HZA:=qh (aI hza hage)
   clear hza hage
   clear HBT
   have HBT:=qh hbt
   have hHeld:=HCB.out _ hbt
   clear hbt hbn
   go_wp2_with fail
   refine hK.out _ _ (fun _ => hHeld) ?_
   clear hK K
   refine qtk 5 40 ?_
   simp only [qz0,qz1]
   refine qone 7 fun K hK => ?_
   go_simp
   refine (HLS.out wn (HW.out.2.1.trans (HBT.out.mono HW.out.2.1.size))).mono ?_
   rintro e wq ⟨rfl,hwq⟩
   rw [hwq]
   clear hwq wq
   go_wp2_with fail
   refine hK.out _ _ (fun _ => hHeld) ?_
   clear hK K
   refine qone 9 fun K hK => ?_
   go_simp
   refine (HLH.out wn (HW.out.2.1.trans (HBT.out.mono HW.out.2.1.size))).mono ?_
   rintro e wh ⟨⟨vh,rfl,hoh⟩,hbh⟩
   obtain ⟨hha,hhc,rfl,_⟩:=hoh.bsn (n:=32) HHL.out
   have HOH:=qh (hoh.base HBT.out.size)
   clear hoh
   have hbt:=HBT.out.trans (hbh.mono HBT.out.size)
   have hza:=(hbh.block A (ltH HZA.out.1)).trans HZA.out.1
   have hage:=HZA.out.2
   clear HZA
   have HZA:=qh (aI hza hage)
   clear hza hage
   clear HBT
   have HBT:=qh hbt
   have hHeld:=HCB.out _ hbt
   clear hbt hbh
   go_wp2_with fail
   refine hK.out _ _ (fun _ => hHeld) ?_
   clear hK K
   refine qone 11 fun K hK => ?_
   go_simp
   refine (HV.out wh (HW.out.2.1.trans (HBT.out.mono HW.out.2.1.size))).mono ?_
   rintro e ws ⟨vs,rfl,hos,hbs⟩
   obtain ⟨sva,svc,rfl,_⟩:=hos.bsn (n:=bs.length) rfl
   have HOS:=qh (hos.base HBT.out.size)
   clear hos
   have hbt:=HBT.out.trans (hbs.mono HBT.out.size)
   have hoh:=HOH.out.below hbs
   clear HOH
   have HOH:=qh hoh
   clear hoh
   have hza:=(hbs.block A (ltH HZA.out.1)).trans HZA.out.1
   have hage:=HZA.out.2
   clear HZA
   have HZA:=qh (aI hza hage)
   clear hza hage
   clear HBT
   have HBT:=qh hbt
   have hHeld:=HCB.out _ hbt
   clear hbt hbs
   go_wp2_with fail
   refine hK.out _ _ (fun _ => hHeld) ?_
   clear hK K
   refine qtk 12 47 ?_
   simp only [qz0,qz1]
   refine qone 14 fun K hK => ?_
   obtain ⟨hza,hage⟩:=HZA.out
   have z0 : ws.cell? ⟨A,0,none⟩ = some (.int .u64 0):=cells_at hza 0
   have f0:=frz_of hza 0
   have z1 : ws.cell? ⟨A,1,none⟩ = some (.int .u64 0):=cells_at hza 1
   have f1:=frz_of hza 1
   have z2 : ws.cell? ⟨A,2,none⟩ = some (.int .i64 0):=cells_at hza 2
   have f2:=frz_of hza 2
   have z3 : ws.cell? ⟨A,3,none⟩ = some (.slice none 0 0):=cells_at hza 3
   have f3:=frz_of hza 3
   have z4 : ws.cell? ⟨A,4,none⟩ = some (.slice none 0 0):=cells_at hza 4
   have f4:=frz_of hza 4
   have hzl:=ltH hza
   go_simp
   have hch:=chg5 ws A (.int .u64 (g1 : Int)) (.int .u64 (q : Int)) (.int .i64 (sl : Int)) (.slice hha 32 hhc) (.slice sva bs.length svc)
   have hfs:=cells_set (k:=4) (y:=(.slice sva bs.length svc)) (cells_set (k:=3) (y:=(.slice hha 32 hhc)) (cells_set (k:=2) (y:=(.int .i64 (sl : Int))) (cells_set (k:=1) (y:=(.int .u64 (q : Int))) (cells_set (k:=0) (y:=(.int .u64 (g1 : Int))) hza))))
   simp only [List.setIfInBounds_toArray,List.set_cons_zero,List.set_cons_succ] at hfs
   obtain ⟨w5,hw5⟩:=qnm ((((((ws.setCell ⟨A,0,none⟩ (.int .u64 (g1 : Int))).setCell ⟨A,1,none⟩ (.int .u64 (q : Int))).setCell ⟨A,2,none⟩ (.int .i64 (sl : Int))).setCell ⟨A,3,none⟩ (.slice hha 32 hhc)).setCell ⟨A,4,none⟩ (.slice sva bs.length svc)))
   rw [<- hw5] at hch hfs ⊢
   have hbt:=HBT.out.trans (hch.below HBT.out.size (fun k _ e => by omega))
   have H5:=qh (aI hbt (aI hfs (aI (own_set hch hza (by decide) HOH.out) (aI (own_set hch hza (by decide) HOS.out) hage))))
   clear hza hage hzl hch hfs hbt hw5 z0 f0 z1 f1 z2 f2 z3 f3 z4 f4
   refine hK.out _ _ (fun h => by simp at h) ?_
   clear hK K
   refine qdon ?_
   clear hHeld
   go_wp2_with fail
   go_meet
   exact ⟨A,rfl,hha,hhc,sva,svc,H5.out⟩
 case rest =>
 obtain ⟨A,rfl,hmid⟩:=hcut
 obtain ⟨hha,hhc,sva,svc,h5⟩:=hmid
 obtain ⟨w5,hw5⟩:=qnm wc
 rw [<- hw5] at h5 ⊢
 have H5:=qh h5
 clear h5 hw5 wc HLN HLS HLH HV
 obtain ⟨hb05,hzA,hoh,hos,hage⟩:=H5.out
 have hbw5:=HW.out.2.1.trans (hb05.mono HW.out.2.1.size)
 have hBh : Bs w5 hha 32 hhc M.head:=hoh.bsAt HHL.out
 have hBs : Bs w5 sva bs.length svc bs:=hos.bsAt rfl
 have hmm:=HM.out.1
 have hMS:=msave_ok (HX.out.1.below hbw5) (n : Int) (g : Int) pn HX.out.2.1 m hha sva hhc bs.length svc (by rw [hmm]; exact hBh) (by rw [hmm]; exact hBs) HX.out.2.2.2.2.2.1 HX.out.2.2.2.2.2.2.1 HX.out.2.2.1
 rw [show m.gen = g1 from by rw [hmm],show m.seq = q from by rw [hmm],show m.seg = (sl : Int) from by rw [hmm]] at hMS
 have HMS:=qh hMS
 obtain ⟨b0,b1,b2,_⟩:=fd_cells ((hb05.block N (ltH HW.out.2.2.1)).trans HW.out.2.2.1)
 obtain ⟨m0,m1,m2,m3,m4⟩:=mk_cells hzA
 clear hb05 hzA hoh hos hage hbw5 hBh hBs hMS hmm
 go_wp2_with fail
 refine HMS.out.mono ?_
 rintro e w6 ⟨rfl,hD6,hc6⟩
 have HFL:=qh (flush_any hD6)
 have HC6:=qh hc6
 clear hD6 hc6 HMS b0 b1 b2 m0 m1 m2 m3 m4
 go_wp2_with fail
 refine HFL.out.mono ?_
 rintro e w7 ⟨rfl,⟨S',hD7,hS7⟩,hc7⟩
 have H7:=qh (aI hD7 (aI hS7 (show Chg (fun k => k = d ∨ k = sb ∨ k = mb) w5 w7 from (HC6.out.mono (fun _ _ e => by omega)).trans hc7 (fun _ _ e => by omega))))
 clear hD7 hS7 hc7 HFL HC6
 go_upto_region 10 with fail
 obtain ⟨w8,hw8⟩:=qnm w7.drew
 have hb78 : Below w7.heap.size w7 w8:=by rw [hw8]; exact (Below.refl _ _).drew
 obtain ⟨hD7,hS7,hc57⟩:=H7.out
 have hc58:=hc57.step hb78
 have hlt:=HX.out.2.2.2.2.2.2.2
 have hNw:=HW.out.2.2.2.2
 have hw0s:=HW.out.2.1.size
 obtain ⟨hb05,hzA,hoh,hos,hage⟩:=H5.out
 have hbw5:=HW.out.2.1.trans (hb05.mono HW.out.2.1.size)
 have hzb5:=(hb05.block N (ltH HW.out.2.2.1)).trans HW.out.2.2.1
 have hzr5:=(hb05.block (N + 1) (ltH HW.out.2.2.2.1)).trans HW.out.2.2.2.1
 have hzb8:=(hc58.block N (ltH hzb5) (by omega)).trans hzb5
 have hzr8:=(hc58.block (N + 1) (ltH hzr5) (by omega)).trans hzr5
 have hzA8:=(hc58.block A (ltH hzA) (by omega)).trans hzA
 have hoh8 : Own w8 w0.heap.size (.slice hha 32 hhc) M.head:=hc58.own hoh (fun k hk e => by have:=hoh.ge k hk; omega)
 have hI8 : Bs w8 ia 16 ic id:=hc58.bs (HX.out.2.2.2.1.below hbw5) (fun ad had => by have:=HX.out.2.2.2.2.1 ad had; omega)
 have HCL:=qh (clone_any ia 16 ic id w8 hI8 (by unfold big; decide))
 have hcw8 : Chg (fun k => k = d ∨ k = sb ∨ k = mb) w w8:=(Chg.of_below hbw5 _).two hc58
 have H8:=qh (aI (hD7.below hb78) (aI hS7 (aI hcw8 (aI hoh8 (show w.heap.size <= w8.heap.size from hcw8.size)))))
 have HR8:=qh hzr8
 have HC10:=qh (fun W (hb : Below w8.heap.size w8 W) => have b:=fd_cells ((hb.block N (ltH hzb8)).trans hzb8); have a:=mk_cells ((hb.block A (ltH hzA8)).trans hzA8); aI (aI b.1 (aI b.2.1 (aI b.2.2.1 b.2.2.2.1))) (aI a.1 (aI a.2.1 (aI a.2.2.1 a.2.2.2.1))))
 clear hb78 hD7 hS7 hc57 hc58 hlt hNw hw0s hb05 hzA hoh hos hage hbw5 hzb5 hzr5 hzb8 hzr8 hzA8 hoh8 hI8 hcw8 H7 H5
 refine heldB_start (fun i => [0,1,2,3,4,5,6,7,8,9,10,11,12,13].contains i) (fun w' => (w'.cell? ⟨N,0,none⟩ = some (.int .i64 (n : Int)) /\ w'.cell? ⟨N,1,none⟩ = some (.int .i64 (pn : Int)) /\ w'.cell? ⟨N,2,none⟩ = some (.int .i64 (g : Int)) /\ w'.cell? ⟨N,3,none⟩ = some (.slice ia 16 ic)) /\ w'.cell? ⟨A,0,none⟩ = some (.int .u64 (g1 : Int)) /\ w'.cell? ⟨A,1,none⟩ = some (.int .u64 (q : Int)) /\ w'.cell? ⟨A,2,none⟩ = some (.int .i64 (sl : Int)) /\ w'.cell? ⟨A,3,none⟩ = some (.slice hha 32 hhc)) (by kernel_rfl) ?_ (fun hHeld => ?_)
 ·rw [<- hw8]; exact HC10.out _ (Below.refl _ _)
 rw [<- hw8] at hHeld ⊢
 clear hw8
 refine qtk 0 59 ?_
 simp only [qz0,qz1]
 refine qtk 1 60 ?_
 simp only [qz0,qz1]
 refine qtk 2 61 ?_
 simp only [qz0,qz1]
 refine qtk 3 62 ?_
 simp only [qz0,qz1]
 refine qtk 5 64 ?_
 simp only [qz0,qz1]
 refine qtk 6 65 ?_
 simp only [qz0,qz1]
 refine qtk 7 66 ?_
 simp only [qz0,qz1]
 refine qtk 8 67 ?_
 simp only [qz0,qz1]
 refine qtk 9 68 ?_
 simp only [qz0,qz1]
 refine qtk 10 69 ?_
 simp only [qz0,qz1]
 refine qtk 11 70 ?_
 simp only [qz0,qz1]
 refine qtk 12 71 ?_
 simp only [qz0,qz1]
 refine qone 4 fun K hK => ?_
 go_simp
 refine HCL.out.mono ?_
 rintro e w9 ⟨vc,rfl,ho9,hb9⟩
 obtain ⟨ca,cc,rfl,_⟩:=ho9.bsn (n:=16) HX.out.2.2.2.1.1
 have H9:=qh (aI ho9 hb9)
 have hHeld:=HC10.out _ hb9
 clear ho9 hb9
 go_wp2_with fail
 refine hK.out _ _ (fun _ => hHeld) ?_
 clear hK K
 refine qtk 13 72 ?_
 simp only [qz0,qz1]
 refine qone 14 fun K hK => ?_
 have hzr:=(H9.out.2.block (N + 1) (ltH HR8.out)).trans HR8.out
 have z0 : w9.cell? ⟨N + 1,0,none⟩ = some (.int .i64 0):=cells_at hzr 0
 have f0:=frz_of hzr 0
 have z1 : w9.cell? ⟨N + 1,1,none⟩ = some (.int .i64 0):=cells_at hzr 1
 have f1:=frz_of hzr 1
 have z2 : w9.cell? ⟨N + 1,2,none⟩ = some (.int .i64 0):=cells_at hzr 2
 have f2:=frz_of hzr 2
 have z3 : w9.cell? ⟨N + 1,3,none⟩ = some (.slice none 0 0):=cells_at hzr 3
 have f3:=frz_of hzr 3
 have z4 : w9.cell? ⟨N + 1,4,none⟩ = some (.int .u64 0):=cells_at hzr 4
 have f4:=frz_of hzr 4
 have z5 : w9.cell? ⟨N + 1,5,none⟩ = some (.int .u64 0):=cells_at hzr 5
 have f5:=frz_of hzr 5
 have z6 : w9.cell? ⟨N + 1,6,none⟩ = some (.int .i64 0):=cells_at hzr 6
 have f6:=frz_of hzr 6
 have z7 : w9.cell? ⟨N + 1,7,none⟩ = some (.int .i64 0):=cells_at hzr 7
 have f7:=frz_of hzr 7
 have z8 : w9.cell? ⟨N + 1,8,none⟩ = some (.slice none 0 0):=cells_at hzr 8
 have f8:=frz_of hzr 8
 have hzl:=ltH hzr
 go_simp
 have hch:=chg9 w9 (N + 1) (.int .i64 (n : Int)) (.int .i64 (pn : Int)) (.int .i64 (g : Int)) (.slice ca 16 cc) (.int .u64 (g1 : Int)) (.int .u64 (q : Int)) (.int .i64 (sl : Int)) (.int .i64 0) (.slice hha 32 hhc)
 have hfs:=fnd_store hzr (.int .i64 (n : Int)) (.int .i64 (pn : Int)) (.int .i64 (g : Int)) (.slice ca 16 cc) (.int .u64 (g1 : Int)) (.int .u64 (q : Int)) (.int .i64 (sl : Int)) (.int .i64 0) (.slice hha 32 hhc)
 obtain ⟨wl,hwl⟩:=qnm ((((((((((w9.setCell ⟨N + 1,0,none⟩ (.int .i64 (n : Int))).setCell ⟨N + 1,1,none⟩ (.int .i64 (pn : Int))).setCell ⟨N + 1,2,none⟩ (.int .i64 (g : Int))).setCell ⟨N + 1,3,none⟩ (.slice ca 16 cc)).setCell ⟨N + 1,4,none⟩ (.int .u64 (g1 : Int))).setCell ⟨N + 1,5,none⟩ (.int .u64 (q : Int))).setCell ⟨N + 1,6,none⟩ (.int .i64 (sl : Int))).setCell ⟨N + 1,7,none⟩ (.int .i64 0)).setCell ⟨N + 1,8,none⟩ (.slice hha 32 hhc)))
 rw [<- hwl] at hch hfs ⊢
 have HL:=qh (aI hzr (aI hch hfs))
 clear hzr hzl hch hfs hwl z0 f0 z1 f1 z2 f2 z3 f3 z4 f4 z5 f5 z6 f6 z7 f7 z8 f8
 refine hK.out _ _ (fun h => by simp at h) ?_
 clear hK K
 refine qfr 15 9 ?_
 simp only [qz0,qz1]
 refine qdon ?_
 clear hHeld
 obtain ⟨z0,z1,z2,z3,z4,z5,z6,z7,z8⟩:=fd_cells (n:=n) (pn:=pn) (g:=g) (gen:=g1) (seq:=q) (sgs:=sl) (rcs:=0) (iv:=.slice ca 16 cc) (hv:=.slice hha 32 hhc) HL.out.2.2
 go_wp2_with fail
 refine bodyPost_ret (v:=.tuple #[fndV n pn g (.slice ca 16 cc) g1 q sl 0 (.slice hha 32 hhc),.int .i64 0]) (by simp [results,Tryz.results24,go_sem,fndV,z0,z1,z2,z3,z4,z5,z6,z7,z8]) rfl ?_
 obtain ⟨hzr,hch,_⟩:=HL.out
 obtain ⟨ho9,hb9⟩:=H9.out
 obtain ⟨hD8,hS8,hc8,ho8,hs8⟩:=H8.out
 have hlt:=HX.out.2.2.2.2.2.2.2
 have hNw:=HW.out.2.2.2.2
 have hb9s:=hb9.size
 refine ⟨.slice ca 16 cc,.slice hha 32 hhc,rfl,⟨(own_set hch hzr (by decide) ho9).base (by omega),(own_set hch hzr (by decide) (ho8.below hb9)).base HW.out.2.1.size⟩,⟨S',(hD8.below hb9).chgl hch (by omega) (by omega) (by omega),hS8⟩,(hc8.step hb9).trans hch (fun k hk e => by omega)⟩
end
end Go.Proofs.YtabdcphioccgnaaGreatDoor
