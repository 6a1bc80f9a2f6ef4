/- RecordDecRest; RecordLaw; Disk; Disk2. -/
import Derived.Carry
import Derived.Deep.Cut
import Derived.Test.YtabdcphioccgnaaGreatDoorK07
set_option maxRecDepth 100000
set_option maxHeartbeats 8000000
namespace Go.Proofs.YtabdcphioccgnaaGreatDoor
section
open Go.RowKit
theorem strOf_ne (xs ys : List UInt8) : (!(strOf xs).toList == (strOf ys).toList) = decide (xs ≠ ys):=by
 rw [strOf_toList,strOf_toList,Bool.eq_iff_iff]
 simp
def RecPost (xs : List UInt8) (B : Nat) (e : Ending) (w' : World) : Prop :=
 (recWhy xs = 0 /\ ∃ v,e = .returned (recV ((rdK xs).1 : Nat) (rdQ xs).1 v ((rdE xs : Int) + 4) 0) /\ Own w' B v (rdB xs).1) ∨
 (recWhy xs ≠ 0 /\ e = .returned (recV 0 0 (.slice none 0 0) 0 (recWhy xs)))
theorem recdec_rest0 (a : Option Addr) (len cap : Nat) (xs : List UInt8) (w : World) (h : Bs w a len cap xs) (hl : len <= big) (hb : badHead xs = false) :
  Calls Tryz.prog 202 #[.slice a len cap] w fun e w' => RecPost xs w.heap.size e w' /\ Below w.heap.size w w':=by
 have hlen:=h.1
 obtain ⟨H,hH⟩:=qnm w.heap.size
 have hsz:=size_alloc w (.cells #[.int .i64 0,.int .u64 0,.slice none 0 0] 69)
 have hE0:=(Ext.refl w).alloc (.cells #[.int .i64 0,.int .u64 0,.slice none 0 0] 69)
 have h':=h.alloc (.cells #[.int .i64 0,.int .u64 0,.slice none 0 0] 69)
 have C0:=cell_new w #[.int .i64 0,.int .u64 0,.slice none 0 0] 69 0
 have C1:=cell_new w #[.int .i64 0,.int .u64 0,.slice none 0 0] 69 1
 have C2:=cell_new w #[.int .i64 0,.int .u64 0,.slice none 0 0] 69 2
 have F0:=frozen_new w #[.int .i64 0,.int .u64 0,.slice none 0 0] 69 0
 have F1:=frozen_new w #[.int .i64 0,.int .u64 0,.slice none 0 0] 69 1
 have F2:=frozen_new w #[.int .i64 0,.int .u64 0,.slice none 0 0] 69 2
 simp only [List.getElem?_toArray,List.getElem?_cons_zero,List.getElem?_cons_succ] at C0 C1 C2
 rw [<- hH] at hE0 hsz C0 C1 C2 F0 F1 F2 ⊢
 have HC:=qh (aI C0 (aI C1 C2))
 have HF:=qh (aI F0 (aI F1 F2))
 have HH:=qh hH
 clear C0 C1 C2 F0 F1 F2 hH
 go_enter Tryz.func202,Tryz.ntmps202
 go_upto_region 1 with fail
 rw [<- HH.out]
 generalize w.alloc (.cells #[.int .i64 0,.int .u64 0,.slice none 0 0] 69) = w0 at *
 go_cut [23] (fun s wx => s = .bool false /\ w0 = wx)
 case first =>
  match xs,hb with
  | [],_ =>
   simp only [List.length_nil] at hlen
   subst hlen
   go_wp2_with fail
   go_meet
   exact ⟨rfl,rfl⟩
  | x :: ys,hb =>
   simp only [List.length_cons] at hlen
   have hx : x = 1 ∨ x = 2:=by
    simp only [badHead,Bool.and_eq_false_iff,bne_eq_false_iff_eq] at hb; exact hb
   obtain ⟨b,off,rfl,hbl,hc⟩ : ∃ b off,a = some ⟨b,off,none⟩ /\ b < w0.heap.size /\ w0.cell? ⟨b,off,none⟩ = some (.int .u8 (x.toNat : Int)):=by
    rcases h'.2.2.2 with h | ⟨b,off,h1,h2,h3⟩
    ·omega
    ·exact ⟨b,off,h1,h2,by have:=h3 0 (by simp); rw [Nat.add_zero] at this; exact this⟩
   have hl0 : (0 : Int) < (len : Int):=by omega
   clear h h' hb hlen hl
   rcases hx with rfl | rfl
   ·rw [show ((1 : UInt8).toNat : Int) = 1 from rfl] at hc
    go_wp2_with fail
    go_meet
    exact ⟨rfl,rfl⟩
   ·rw [show ((2 : UInt8).toNat : Int) = 2 from rfl] at hc
    go_wp2_with fail
    go_meet
    exact ⟨rfl,rfl⟩
 case rest =>
  obtain ⟨rfl,rfl⟩:=hcut
  have hWY : recWhy xs = if (rdW xs).length < 4 then 10 else if rdW xs ≠ be (crcMore 0 (xs.take (rdE xs))) 4 then 14 else if ¬ RecOk ((rdK xs).1 : Nat) (rdQ xs).1 (rdB xs).1.length then 12 else 0:=by unfold recWhy; rw [hb,if_neg (by simp)]
  have HWY:=qh hWY
  clear hWY hb h
  go_wp2_with fail
  refine (rnew_any a len cap xs w0 h' hl).mono ?_
  rintro e w1 ⟨q,rb,rfl,hR,hb1⟩
  have hE1:=(Ext.refl w0).step hb1
  have hb0 : xs.length <= big:=by omega
  have l1 : (rdK xs).2.1.length <= big:=Nat.le_trans (rdRaw_left (xs,0) 1) hb0
  have l2 : (rdQ xs).2.1.length <= big:=Nat.le_trans (rdRaw_left (rdK xs).2 8) l1
  have l3 : (rdB xs).2.1.length <= (rdQ xs).2.1.length:=Nat.le_trans (rdRaw_left _ _) (rdRaw_left (rdQ xs).2 2)
  have l4 : (rdB xs).2.1.length <= big:=Nat.le_trans l3 l2
  have hle : rdLeft (rdB xs).2 <= xs.length:=by
   unfold rdLeft
   split
   ·omega
   ·exact Nat.le_trans l3 (Nat.le_trans (rdRaw_left (rdK xs).2 8) (rdRaw_left (xs,0) 1))
  have HE:=qh (show rdE xs = xs.length - rdLeft (rdB xs).2 from rfl)
  have HW:=qh (show rdW xs = (rdRaw (rdB xs).2 4).1 from rfl)
  have hWl : (rdRaw (rdB xs).2 4).1.length <= 4:=rdRaw_len (rdB xs).2 4
  have hC1:=qh (rbyte_any w0.heap.size q rb (xs,0) w1 hR hb0)
  change Hid (Calls _ _ _ _ (fun e w' => e = .returned (.int .i64 ((rdK xs).1 : Nat)) /\ RPost w1 w0.heap.size q rb (rdK xs).2 w')) at hC1
  have hC2:=qh (fun w h => rlong_any w0.heap.size q rb (rdK xs).2 w h l1)
  change Hid (∀ w,_ -> Calls _ _ _ _ (fun e w' => e = .returned (.int .u64 ((rdQ xs).1 : Nat)) /\ RPost w w0.heap.size q rb (rdQ xs).2 w')) at hC2
  have hC3:=qh (fun w h => rbytes_any w0.heap.size q rb (rdQ xs).2 w h l2)
  change Hid (∀ w,_ -> Calls _ _ _ _ (fun e w' => ∃ v,e = .returned v /\ Own w' w.heap.size v (rdB xs).1 /\ RPost w w0.heap.size q rb (rdB xs).2 w')) at hC3
  have hkb : (rdK xs).1 < 256:=rdByte_lt _
  have hqb : (rdQ xs).1 < 18446744073709551616:=rdLong_lt _
  generalize hkE : (rdK xs).1 = k at *
  generalize (rdK xs).2 = s1 at *
  generalize hqE : (rdQ xs).1 = sq at *
  generalize (rdQ xs).2 = s2 at *
  generalize hbo : (rdB xs).1 = bo at *
  generalize (rdB xs).2 = s3 at *
  have HKQ:=qh (aI hkE (aI hqE hbo))
  clear hbo hkE hqE
  go_wp2_with fail
  refine hC1.out.mono ?_
  rintro e w2 ⟨rfl,hP⟩
  obtain ⟨hE2,hR2⟩:=hE1.next hP
  clear hP hE1 hR hC1
  go_wp2_with fail
  refine (hC2.out _ hR2).mono ?_
  rintro e w3 ⟨rfl,hP⟩
  obtain ⟨hE3,hR3⟩:=hE2.next hP
  clear hP hE2 hR2 hC2
  go_wp2_with fail
  refine (hC3.out _ hR3).mono ?_
  rintro e w4 ⟨v,rfl,ho,hP⟩
  obtain ⟨hE4,hR4⟩:=hE3.next hP
  have hob : ∀ k,v.ownBlock = some k -> k ≠ q:=by
   intro k hk e
   have:=hR3.lt
   rcases ho.parts with ⟨h1,_⟩ | ⟨g,c,h1,h2,h3⟩
   ·rw [h1] at hk; simp [Value.ownBlock] at hk
   ·rw [h1] at hk; simp [Value.ownBlock] at hk; omega
  have ho:=ho.base hE3.2
  clear hP hE3 hR3 hC3
  obtain ⟨av,cv,rfl,hBv⟩:=ho.bs
  have d0:=cell_new w4 #[.int .i64 (k : Int),.int .u64 (sq : Int),.slice av bo.length cv] 69 0
  have d1:=cell_new w4 #[.int .i64 (k : Int),.int .u64 (sq : Int),.slice av bo.length cv] 69 1
  have d2:=cell_new w4 #[.int .i64 (k : Int),.int .u64 (sq : Int),.slice av bo.length cv] 69 2
  have hE5:=hE4.alloc (.cells #[.int .i64 (k : Int),.int .u64 (sq : Int),.slice av bo.length cv] 69)
  have hR5:=hR4.below ((Below.refl _ _).alloc (Nat.le_refl _) (.cells #[.int .i64 (k : Int),.int .u64 (sq : Int),.slice av bo.length cv] 69))
  have ho5:=ho.alloc (.cells #[.int .i64 (k : Int),.int .u64 (sq : Int),.slice av bo.length cv] 69)
  have hsz5:=size_alloc w4 (.cells #[.int .i64 (k : Int),.int .u64 (sq : Int),.slice av bo.length cv] 69)
  have hp5 : w0.heap.size <= w4.heap.size:=hE4.2
  obtain ⟨Z,hZ⟩:=qnm w4.heap.size
  simp only [List.getElem?_toArray,List.getElem?_cons_zero,List.getElem?_cons_succ] at d0 d1 d2
  have hqz:=hR4.lt
  rw [<- hZ] at d0 d1 d2 hsz5 hp5 hqz
  have HZ:=qh hZ
  clear hZ hE4 hR4 ho hBv
  go_upto_region 5 with fail
  rw [<- HZ.out]
  generalize w4.alloc (.cells #[.int .i64 (k : Int),.int .u64 (sq : Int),.slice av bo.length cv] 69) = w5 at *
  have hRL:=rleft_any w0.heap.size q rb s3 w5 hR5
  have hsub : IntKind.i64.wrap ((len : Int) - (rdLeft s3 : Int)) = ((rdE xs : Nat) : Int):=by rw [HE.out,hlen,IntWalk.i64_in _ (by unfold big at hl; omega)]; omega
  have hEle : rdE xs <= len:=by rw [HE.out]; omega
  generalize henE : rdE xs = en at *
  have HEN:=qh henE
  clear henE
  generalize rdLeft s3 = lf at *
  go_wp2_with fail
  refine hRL.mono ?_
  rintro e w6 ⟨rfl,rfl⟩
  clear hRL
  go_wp2_with fail
  refine (rraw_any w0.heap.size q rb s3.1 s3.2 4 _ hR5 l4).mono ?_
  rintro e w6 ⟨v,rfl,hoW,hP⟩
  obtain ⟨hE6,hR6⟩:=hE5.next hP
  have hqZ : q < Z:=by have:=hR5.lt; have:=hP.2; have:=hqz; omega
  have d0:=(hP.2.cell hsz5 (by omega)).trans d0
  have d1:=(hP.2.cell hsz5 (by omega)).trans d1
  have d2:=(hP.2.cell hsz5 (by omega)).trans d2
  have hZ6 : Z < w6.heap.size:=Nat.lt_of_lt_of_le hsz5 hP.2.size
  have hoB : Own w6 w0.heap.size (.slice av bo.length cv) bo:=hP.2.own ho5 (fun k hk => by have:=hob k hk; omega)
  obtain ⟨aw,cw,rfl,hBW⟩:=hoW.bs
  have hB6 : Bs w6 a len cap xs:=h'.below hE6.1
  have HWR:=qh (show rdW xs = (rdRaw s3 4).1 from HW.out)
  clear hP hR6 hR5 hE5 hoW ho5 HW hsub
  generalize (rdRaw s3 4).1 = W at *
  obtain ⟨C0,C1,C2⟩:=HC.out
  obtain ⟨F0,F1,F2⟩:=HF.out
  have c0:=hE6.cel hsz C0
  have c1:=hE6.cel hsz C1
  have c2:=hE6.cel hsz C2
  have f0:=hE6.frz hsz F0
  have f1:=hE6.frz hsz F1
  have f2:=hE6.frz hsz F2
  clear C0 C1 C2 F0 F1 F2
  have hEw:=hE0.to (hE6.1.mono (Nat.le_of_lt hsz))
  by_cases hw4 : W.length < 4
  ·have hRW:=HWY.out
   rw [HWR.out,if_pos hw4] at hRW
   have HRW:=qh hRW
   clear hRW
   go_wp2_with fail
   refine bodyPost_ret (v:=recV 0 0 (.slice none 0 0) 0 10) (by simp [results,Tryz.results202,go_sem,recV,c0,c1,c2]) rfl ⟨.inr ⟨by rw [HRW.out]; decide,by rw [HRW.out]; rfl⟩,?_⟩
   exact (((hEw.setCell (Nat.le_refl _) _).setCell (Nat.le_refl _) _).setCell (Nat.le_refl _) _).1
  ·have hw4 : W.length = 4:=by omega
   have hBT:=hB6.take (k:=en) (by omega)
   have hSL : (be (crcMore 0 (xs.take en)) 4).length = 4:=be_length _ _
   have HSM:=qh (fun w h => recsum_any a en cap (xs.take en) w h)
   generalize hSe : be (crcMore 0 (xs.take en)) 4 = S at *
   have HSe:=qh hSe
   clear hSe
   rw [hw4] at hBW
   go_upto_region 9 with fail
   go_cut [46] (fun s wx => s = .bool (decide (W ≠ S)) /\ Ext w6.heap.size w6 wx)
   case first =>
    have hs0:=run_string hBW.drew
    have q1 : (0 : Int) <= (en : Int):=by omega
    have q2 : (en : Int) <= (cap : Int):=by have:=hB6.2.1; omega
    have q3 : en <= cap:=by omega
    go_region_with ((go_at_call 237; refine (HSM.out _ hBT.drew).mono ?_; rintro e w9 ⟨v9,rfl,ho9,hb9⟩; obtain ⟨a9,c9,rfl,hB9⟩:=ho9.bsn hSL; have hE9:=(Ext.refl w6).drew.step hb9; have hs1:=run_string hB9; have hs2:=run_string (hBW.drew.below hb9)))
    all_goals (go_wp2_with fail; go_meet; refine ⟨congrArg Value.bool ?_,?_⟩)
    all_goals first | exact hE9 | exact strOf_ne _ _
   case rest =>
    obtain ⟨rfl,hEc⟩:=hcut
    have D0:=qh d0
    have D1:=qh d1
    have D2:=qh d2
    have CC:=qh (aI c0 (aI c1 c2))
    have FF:=qh (aI f0 (aI f1 f2))
    have d0:=hEc.cel hZ6 d0
    have d1:=hEc.cel hZ6 d1
    have d2:=hEc.cel hZ6 d2
    have c0:=hEc.cel (show H < w6.heap.size by omega) c0
    have c1:=hEc.cel (show H < w6.heap.size by omega) c1
    have c2:=hEc.cel (show H < w6.heap.size by omega) c2
    have f0:=hEc.frz (show H < w6.heap.size by omega) f0
    have f1:=hEc.frz (show H < w6.heap.size by omega) f1
    have f2:=hEc.frz (show H < w6.heap.size by omega) f2
    have hEz:=hEw.step hEc.1
    have hoB:=hoB.below hEc.1
    have hRW:=HWY.out
    rw [HWR.out,if_neg (by omega)] at hRW
    by_cases hWS : W = S
    ·rw [if_neg (by simp [hWS])] at hRW
     have e1 : decide (W ≠ S) = false:=by simp [hWS]
     have HR:=qh (recright_any (k : Int) sq av bo.length cv)
     rw [e1]
     have HRW:=qh hRW
     clear hRW hWS e1
     go_wp2_with fail
     refine (HR.out _).mono ?_
     rintro e w7 ⟨rfl,hb7⟩
     have hEd:=hEc.step hb7
     have hEz:=hEz.step hb7
     have hoB:=hoB.below hb7
     clear d0 d1 d2 c0 c1 c2 f0 f1 f2
     have d0:=hEd.cel hZ6 D0.out
     have d1:=hEd.cel hZ6 D1.out
     have d2:=hEd.cel hZ6 D2.out
     have c0:=hEd.cel (show H < w6.heap.size by omega) CC.out.1
     have c1:=hEd.cel (show H < w6.heap.size by omega) CC.out.2.1
     have c2:=hEd.cel (show H < w6.heap.size by omega) CC.out.2.2
     have f0:=hEd.frz (show H < w6.heap.size by omega) FF.out.1
     have f1:=hEd.frz (show H < w6.heap.size by omega) FF.out.2.1
     have f2:=hEd.frz (show H < w6.heap.size by omega) FF.out.2.2
     clear D0 D1 D2 CC FF
     by_cases hok : RecOk (k : Int) sq bo.length
     ·have HOK:=qh (decide_eq_true hok)
      rw [HOK.out]
      have hRW:=HRW.out
      rw [if_neg (fun h => h hok)] at hRW
      have HRW:=qh hRW
      clear hRW hok
      have hen4 : IntKind.i64.wrap ((en : Int) + 4) = (en : Int) + 4:=IntWalk.i64_in _ (by unfold big at hl; omega)
      go_wp2_with fail
      refine bodyPost_ret (v:=recV (k : Int) sq (.slice av bo.length cv) ((en : Int) + 4) 0) (by simp [results,Tryz.results202,go_sem,recV,c0,c1,c2]) rfl ⟨.inl ⟨by rw [HRW.out],.slice av bo.length cv,?_,?_⟩,?_⟩
      ·rw [HKQ.out.1,HKQ.out.2.1,HEN.out]
      ·rw [HKQ.out.2.2]
       rcases hoB.parts with ⟨h1,h2⟩ | ⟨g,c,h1,h2,h3⟩
       ·rw [h1,h2]; exact Own.nil _ _
       ·rw [h1]; exact Own.of_row (((h3.setOther (a:=⟨H,0,none⟩) (by show g ≠ H; omega) _).setOther (a:=⟨H,1,none⟩) (by show g ≠ H; omega) _).setOther (a:=⟨H,2,none⟩) (by show g ≠ H; omega) _) (by omega)
      ·exact (((hEz.setCell (Nat.le_refl _) _).setCell (Nat.le_refl _) _).setCell (Nat.le_refl _) _).1
     ·have HOK:=qh (decide_eq_false hok)
      rw [HOK.out]
      have hRW:=HRW.out
      rw [if_pos hok] at hRW
      have HRW:=qh hRW
      clear hRW hok
      go_wp2_with fail
      refine bodyPost_ret (v:=recV 0 0 (.slice none 0 0) 0 12) (by simp [results,Tryz.results202,go_sem,recV,c0,c1,c2]) rfl ⟨.inr ⟨by rw [HRW.out]; decide,by rw [HRW.out]; rfl⟩,?_⟩
      exact (((hEz.setCell (Nat.le_refl _) _).setCell (Nat.le_refl _) _).setCell (Nat.le_refl _) _).1
    ·rw [if_pos hWS] at hRW
     have e1 : decide (W ≠ S) = true:=by simp [hWS]
     rw [e1]
     have HRW:=qh hRW
     clear hRW hWS e1
     go_wp2_with fail
     refine bodyPost_ret (v:=recV 0 0 (.slice none 0 0) 0 14) (by simp [results,Tryz.results202,go_sem,recV,c0,c1,c2]) rfl ⟨.inr ⟨by rw [HRW.out]; decide,by rw [HRW.out]; rfl⟩,?_⟩
     exact (((hEz.setCell (Nat.le_refl _) _).setCell (Nat.le_refl _) _).setCell (Nat.le_refl _) _).1
theorem recdec_any (a : Option Addr) (len cap : Nat) (xs : List UInt8) (w : World) (h : Bs w a len cap xs) (hl : len <= big) :
  Calls Tryz.prog 202 #[.slice a len cap] w fun e w' => RecPost xs w.heap.size e w' /\ Below w.heap.size w w':=by
 cases hb : badHead xs with
 | true =>
  refine (recdec_head a len cap xs w h hb).mono fun e w' ⟨h1,h2⟩ => ⟨.inr ?_,h2⟩
  have : recWhy xs = 12:=by unfold recWhy; rw [if_pos hb]
  rw [this]
  exact ⟨by decide,h1⟩
 | false => exact recdec_rest0 a len cap xs w h hl hb
theorem lenBytes_eq (ys : List UInt8) (h : ys.length <= 65535) : lenBytes ys = be ys.length 2 ++ ys:=by
 unfold lenBytes; rw [Nat.min_eq_left h,List.take_of_length_le h]
theorem rec_reads (k q : Nat) (ys zs : List UInt8) (hk : k < 256) (hq : q < 18446744073709551616) (hy : ys.length <= 65535) :
  rdK (recHead k q ys ++ zs) = (k,(be q 8 ++ (lenBytes ys ++ zs),0)) /\ rdQ (recHead k q ys ++ zs) = (q,(lenBytes ys ++ zs,0)) /\ rdB (recHead k q ys ++ zs) = (ys,(zs,0)):=by
 have e1 : rdK (recHead k q ys ++ zs) = (k,(be q 8 ++ (lenBytes ys ++ zs),0)):=by
  unfold rdK recHead
  rw [List.append_assoc,List.append_assoc,rdByte_be,Nat.mod_eq_of_lt hk]
 have e2 : rdQ (recHead k q ys ++ zs) = (q,(lenBytes ys ++ zs,0)):=by
  unfold rdQ
  rw [e1]
  exact rdLong_be _ _ hq
 refine ⟨e1,e2,?_⟩
 unfold rdB
 rw [e2,lenBytes_eq _ hy]
 exact rdBytes_app _ _ hy
theorem recHead_length (k q : Nat) (ys : List UInt8) (h : ys.length <= 65535) : (recHead k q ys).length = 11 + ys.length:=by
 simp [recHead,be_length,lenBytes_eq _ h]; omega
theorem recBytes_length (k q : Nat) (ys : List UInt8) (h : ys.length <= 65535) : (recBytes k q ys).length = 15 + ys.length:=by
 simp [recBytes,recHead_length k q ys h,be_length]; omega
theorem badHead_rec (k q : Nat) (ys zs : List UInt8) (hk : k = 1 ∨ k = 2) : badHead (recHead k q ys ++ zs) = false:=by
 rcases hk with rfl | rfl <;> rfl
theorem recWhy_ok (k q : Nat) (ys zs : List UInt8) (hok : RecOk (k : Int) q ys.length) :
  recWhy (recBytes k q ys ++ zs) = 0 /\ (rdK (recBytes k q ys ++ zs)).1 = k /\ (rdQ (recBytes k q ys ++ zs)).1 = q /\ (rdB (recBytes k q ys ++ zs)).1 = ys /\ rdE (recBytes k q ys ++ zs) = 11 + ys.length:=by
 have hk : k = 1 ∨ k = 2:=by have:=hok.2.2; omega
 have hy : ys.length <= 65535:=by have:=hok.2.1; omega
 have hq : q < 18446744073709551616:=by have:=hok.1; omega
 have e0 : recBytes k q ys ++ zs = recHead k q ys ++ (be (crcMore 0 (recHead k q ys)) 4 ++ zs):=by simp [recBytes]
 rw [e0]
 obtain ⟨e1,e2,e3⟩:=rec_reads k q ys (be (crcMore 0 (recHead k q ys)) 4 ++ zs) (by omega) hq hy
 have eE : rdE (recHead k q ys ++ (be (crcMore 0 (recHead k q ys)) 4 ++ zs)) = 11 + ys.length:=by
  unfold rdE
  rw [e3]
  unfold rdLeft
  rw [if_neg (by simp)]
  simp only [List.length_append,recHead_length k q ys hy]
  omega
 have eW : rdW (recHead k q ys ++ (be (crcMore 0 (recHead k q ys)) 4 ++ zs)) = be (crcMore 0 (recHead k q ys)) 4:=by
  unfold rdW
  rw [e3]
  simp only
  rw [rdRaw_app (be (crcMore 0 (recHead k q ys)) 4) zs 4 (by rw [be_length]; rfl)]
 refine ⟨?_,by rw [e1],by rw [e2],by rw [e3],eE⟩
 unfold recWhy
 rw [badHead_rec k q ys _ hk,eW,eE,e1,e2,e3,if_neg (by simp),be_length,if_neg (by omega),if_neg (by
  rw [show 11 + ys.length = (recHead k q ys).length from (recHead_length k q ys hy).symm,List.take_left']
  ·simp
  ·rfl),if_neg (fun h => h hok)]
end
section
open Go.RowKit Go.ChangeMaps Go.MapKept
abbrev TDisk : TypeId:=78
abbrev TI64 : TypeId:=3
theorem dkeyed : Maps.Keyed Tryz.prog TI64:=Maps.int_keyed Tryz.underlying3
theorem dkey (i : Nat) (h : i <= 1000000000) : keyOf Tryz.prog TI64 (.int .i64 (i : Int)) = some (numS.lit i):=numS_key Tryz.underlying3 i h
theorem rising_le {n : Nat} : ∀ (L : List (Nat × Value)) (lo : Nat),L.Pairwise (fun p q => p.1 < q.1) -> (∀ p ∈ L,lo <= p.1 /\ p.1 < n) -> L.length <= n - lo
 | [],_,_,_ => by simp
 | x :: r,lo,hp,h => by
  obtain ⟨h1,h2⟩:=List.pairwise_cons.1 hp
  have hx:=h x (List.mem_cons_self ..)
  have:=rising_le r (x.1 + 1) h2 (fun p hp => ⟨h1 p hp,(h p (List.mem_cons_of_mem _ hp)).2⟩)
  simp; omega
theorem MapAt.rising {w : World} {b : Nat} {L : List (Nat × Value)} (h : MapAt numS Tryz.prog TI64 w b L) : L.Pairwise (fun p q => p.1 < q.1):=by
 obtain ⟨es,e,h1,_⟩:=World.ownsMap.canon h dkeyed
 unfold mapK at e
 injection e with e
 rw [<- e,List.pairwise_map] at h1
 exact h1.imp (fun {a b} hab => by simpa [numS,Lit.before] using hab)
def Dk (w : World) (d sb mb n : Nat) (S : List UInt8) (M : Nat -> Option (List UInt8)) : Prop :=
 (d ≠ sb /\ d ≠ mb /\ sb ≠ mb) /\ S.length = 128 * n /\ n <= 4096 /\ (∃ cap wr,w.heap[d]? = some (.cells #[.slice (some ⟨sb,0,none⟩) (128 * n) cap,.map (some mb),.int .i64 wr] TDisk (0,0)) /\ Row w sb cap S) /\
 ∃ L,MapAt numS Tryz.prog TI64 w mb L /\ (∀ i,getK i L = none -> M i = none) /\ ∀ i v,getK i L = some v -> i < n /\ ∃ a c bs,v = .slice a 128 c /\ Bs w a 128 c bs /\ M i = some bs /\ ∀ ad,a = some ad -> ad.block ≠ d /\ ad.block ≠ sb /\ ad.block ≠ mb
theorem Dk.below {w w' : World} {d sb mb n : Nat} {S : List UInt8} {M : Nat -> Option (List UInt8)} (h : Dk w d sb mb n S M) (hb : Below w.heap.size w w') : Dk w' d sb mb n S M:=by
 obtain ⟨h1,h2,h3,⟨cap,wr,h4,h5⟩,L,h6,h7,h8⟩:=h
 refine ⟨h1,h2,h3,⟨cap,wr,(hb.block d (Array.getElem?_eq_some_iff.1 h4).1).trans h4,h5.below hb⟩,L,h6.below numS hb,h7,fun i v hi => ?_⟩
 obtain ⟨hn,a,c,bs,e,hB,hM,ha⟩:=h8 i v hi
 exact ⟨hn,a,c,bs,e,hB.below hb,hM,ha⟩
theorem Dk.lt {w : World} {d sb mb n : Nat} {S : List UInt8} {M : Nat -> Option (List UInt8)} (h : Dk w d sb mb n S M) : d < w.heap.size /\ sb < w.heap.size /\ mb < w.heap.size:=by
 obtain ⟨_,_,_,⟨cap,wr,h4,h5⟩,L,h6,_⟩:=h
 exact ⟨(Array.getElem?_eq_some_iff.1 h4).1,h5.lt,h6.lt⟩
theorem getK_mem {κ : Type} [DecidableEq κ] {L : List (κ × Value)} {p : κ × Value} (h : p ∈ L) : ∃ v,getK p.1 L = some v:=by
 unfold getK
 cases hf : L.find? (fun q => decide (q.1 = p.1)) with
 | some q => exact ⟨q.2,rfl⟩
 | none => have:=List.find?_eq_none.1 hf p h; simp at this
def sect (S : List UInt8) (M : Nat -> Option (List UInt8)) (i : Nat) : List UInt8:=(M i).getD ((S.drop (128 * i)).take 128)
theorem turned_chg {w w' : World} {b : Nat} (h : w.mapTurned w' b) : Chg (fun k => k = b) w w':=by
 obtain ⟨es,clock,es',clock',hb,rfl⟩:=h
 exact ⟨rfl,rfl,rfl,by simp [setBlock],fun k _ hk => heap_setBlock_other hb _ hk⟩
theorem step_mapput {w w' : World} {ops : Array Oper} {o : Oper} {a : Act} {K : Act -> World -> Prop} {Q : Exit -> Act -> World -> Prop} {E : Prop} (hgd : Region.wanted o (yielded ops a.tmps) = true) (m x v : Operand) (t : TypeId)
  (ho : o.op = Op.mapUpdate t m x v) (mv key val : Value) (hm : a.eval m = mv) (hx : a.eval x = key) (hv : a.eval v = val) (hr : (Instr.mapUpdate t mv key val).run Tryz.prog w = .ok () w') (hh : K (a.put o.dst undef) w') :
  if Region.wanted o (yielded ops a.tmps) = true then Oper.wp Tryz.prog o a w K Q else E:=by
 rw [if_pos hgd]
 unfold Oper.wp
 simp [execOp,ho,hm,hx,hv,hr,Result.andThen]
 exact hh
theorem Dk.len_le {w : World} {d sb mb n : Nat} {S : List UInt8} {M : Nat -> Option (List UInt8)} (_h : Dk w d sb mb n S M) {L : List (Nat × Value)} (hL : MapAt numS Tryz.prog TI64 w mb L) (hn : n <= 4096) (h8 : ∀ i v,getK i L = some v -> i < n) : L.length <= 1000000:=by
 have:=rising_le (n:=n) L 0 hL.rising (fun p hp => ⟨Nat.zero_le _,by obtain ⟨v,hv⟩:=getK_mem hp; exact h8 _ _ hv⟩)
 omega
theorem sectors_any {w : World} {d sb mb n : Nat} {S : List UInt8} {M : Nat -> Option (List UInt8)} (h : Dk w d sb mb n S M) :
  Calls Tryz.prog 30 #[.pointer (some ⟨d,0,none⟩)] w fun e w' => e = .returned (.int .i64 (n : Int)) /\ w = w':=by
 obtain ⟨_,hS,hn,⟨cap,wr,h4,h5⟩,_⟩:=h
 have c0:=cells_at h4 0
 have e1 : ((128 * n : Nat) : Int).tdiv 128 = (n : Int):=by rw [Int.tdiv_eq_ediv_of_nonneg (by omega)]; omega
 have e2 : IntKind.i64.wrap (n : Int) = (n : Int):=IntWalk.i64_in _ (by omega)
 clear h4 h5
 go_enter Tryz.func30,Tryz.ntmps30
 go_wp2
 go_ret
 exact ⟨rfl,rfl⟩
theorem is_any {w : World} {d sb mb n : Nat} {S : List UInt8} {M : Nat -> Option (List UInt8)} (h : Dk w d sb mb n S M) (i : Int) :
  Calls Tryz.prog 170 #[.pointer (some ⟨d,0,none⟩),.int .i64 i] w fun e w' => e = .returned (.bool (decide (0 <= i /\ i < (n : Int)))) /\ w = w':=by
 have HS:=qh (sectors_any h)
 clear h
 by_cases h1 : 0 <= i
 ·by_cases h2 : i < (n : Int)
  ·rw [decide_eq_true ⟨h1,h2⟩]
   go_enter Tryz.func170,Tryz.ntmps170
   go_wp2_with fail
   refine HS.out.mono ?_
   rintro e w1 ⟨rfl,rfl⟩
   go_wp2_with fail
   go_ret
   exact ⟨rfl,rfl⟩
  ·rw [decide_eq_false (fun h => h2 h.2)]
   go_enter Tryz.func170,Tryz.ntmps170
   go_wp2_with fail
   refine HS.out.mono ?_
   rintro e w1 ⟨rfl,rfl⟩
   go_wp2_with fail
   go_ret
   exact ⟨by show Ending.returned (Value.bool (decide (i < (n : Int)))) = _; rw [decide_eq_false (by omega)],rfl⟩
 ·rw [decide_eq_false (fun h => h1 h.1)]
  go_enter Tryz.func170,Tryz.ntmps170
  go_wp2_with fail
  go_ret
  exact ⟨rfl,rfl⟩
theorem at_any {w : World} {d sb mb n : Nat} {S : List UInt8} {M : Nat -> Option (List UInt8)} (h : Dk w d sb mb n S M) (i : Nat) (hi : i < n) :
  Calls Tryz.prog 26 #[.pointer (some ⟨d,0,none⟩),.int .i64 (i : Int)] w fun e w' => (∃ c,e = .returned (.slice (some ⟨sb,128 * i,none⟩) 128 c) /\ Bs w (some ⟨sb,128 * i,none⟩) 128 c ((S.drop (128 * i)).take 128)) /\ w = w':=by
 obtain ⟨_,hS,hn,⟨cap,wr,h4,h5⟩,_⟩:=h
 have hB:=h5.bs
 rw [hS] at hB
 have hcap:=hB.2.1
 have hB1:=(hB.drop (k:=128 * i) (by omega)).take (k:=128) (by omega)
 have hne : ¬ cap = 128 * i:=by omega
 rw [if_neg hne] at hB1
 have had : (some (⟨sb,0,none⟩ : Addr)).map (·.add (128 * i)) = some ⟨sb,128 * i,none⟩:=by
  by_cases h0 : i = 0
  ·simp [Addr.add,h0]
  ·have : ¬ 128 * i = 0:=by omega
   simp [Addr.add,this]
 rw [had] at hB1
 have HB:=qh hB1
 have c0:=cells_at h4 0
 have e1 : IntKind.i64.wrap ((i : Int) * 128) = ((128 * i : Nat) : Int):=by rw [IntWalk.i64_in _ (by omega)]; omega
 have e2 : IntKind.i64.wrap (((i : Int) + 1) * 128) = ((128 * i + 128 : Nat) : Int):=by rw [IntWalk.i64_in _ (by omega)]; omega
 have e3 : 128 * i + 128 <= cap:=by omega
 have e4 : 128 * i <= 128 * i + 128:=by omega
 have e5 : 128 * i <= cap:=by omega
 clear h4 h5 hB hB1 had
 go_enter Tryz.func26,Tryz.ntmps26
 go_wp2
 go_ret
 exact ⟨⟨cap - 128 * i,by show Ending.returned (Value.slice (some ⟨sb,128 * i,none⟩) (128 * i + 128 - 128 * i) (cap - 128 * i)) = _; rw [Nat.add_sub_cancel_left],HB.out⟩,rfl⟩
theorem dread_any {w : World} {d sb mb n : Nat} {S : List UInt8} {M : Nat -> Option (List UInt8)} (h : Dk w d sb mb n S M) (i : Nat) (hi : i < n) :
  Calls Tryz.prog 154 #[.pointer (some ⟨d,0,none⟩),.int .i64 (i : Int)] w fun e w' => ∃ v,e = .returned (.tuple #[v,.int .i64 0]) /\ Own w' w.heap.size v (sect S M i) /\ Below w.heap.size w w':=by
 have HI:=qh (is_any h (i : Int))
 rw [decide_eq_true ⟨by omega,by omega⟩] at HI
 have HA:=qh (at_any h i hi)
 obtain ⟨_,hS,hn,⟨cap,wr,h4,h5⟩,L,hL,hL0,hL1⟩:=h
 have c1:=cells_at h4 1
 have hlk:=hL.look_ok numS dkeyed Tryz.underlying76 (Tryz.zeroValue30 w) (dkey i (by omega))
 clear h4 h5 hL
 cases hg : getK i L with
 | none =>
  rw [hg] at hlk
  have hM:=hL0 i hg
  have hsec : sect S M i = (S.drop (128 * i)).take 128:=by unfold sect; rw [hM]; rfl
  rw [hsec]
  clear hL0 hL1 hg hM hsec
  simp only [Option.getD_none,Option.isSome_none] at hlk
  go_enter Tryz.func154,Tryz.ntmps154
  go_wp2_with fail
  refine HI.out.mono ?_
  rintro e w1 ⟨rfl,rfl⟩
  go_wp2_with fail
  refine HA.out.mono ?_
  rintro e w2 ⟨⟨c,rfl,hB⟩,rfl⟩
  go_wp2_with fail
  refine (clone_any _ 128 c _ _ hB (by unfold big; omega)).mono ?_
  rintro e w3 ⟨v,rfl,ho,hb⟩
  go_wp2_with fail
  go_ret2
  exact ⟨v,rfl,ho,hb⟩
 | some u =>
  rw [hg] at hlk
  obtain ⟨_,a,c,bs,rfl,hB,hM,_⟩:=hL1 i u hg
  have hsec : sect S M i = bs:=by unfold sect; rw [hM]; rfl
  rw [hsec]
  clear hL0 hL1 hg hM hsec HA
  simp only [Option.getD_some,Option.isSome_some] at hlk
  go_enter Tryz.func154,Tryz.ntmps154
  go_wp2_with fail
  refine HI.out.mono ?_
  rintro e w1 ⟨rfl,rfl⟩
  go_wp2_with fail
  refine (clone_any _ 128 c _ _ hB (by unfold big; omega)).mono ?_
  rintro e w3 ⟨v,rfl,ho,hb⟩
  go_wp2_with fail
  go_ret2
  exact ⟨v,rfl,ho,hb⟩
def updM (M : Nat -> Option (List UInt8)) (i : Nat) (bs : List UInt8) (j : Nat) : Option (List UInt8):=if j = i then some bs else M j
theorem dk_write {w w6 w7 : World} {d sb mb n : Nat} {S : List UInt8} {M : Nat -> Option (List UInt8)} (h : Dk w d sb mb n S M) {L : List (Nat × Value)} {i : Nat} (hi : i < n) {a1 : Option Addr} {c1 : Nat} {bs : List UInt8} {cap : Nat} {wr : Int} (u : Int)
  (h4 : w.heap[d]? = some (.cells #[.slice (some ⟨sb,0,none⟩) (128 * n) cap,.map (some mb),.int .i64 wr] TDisk (0,0))) (hL0 : ∀ i,getK i L = none -> M i = none)
  (hL1 : ∀ i v,getK i L = some v -> i < n /\ ∃ a c bs,v = .slice a 128 c /\ Bs w a 128 c bs /\ M i = some bs /\ ∀ ad,a = some ad -> ad.block ≠ d /\ ad.block ≠ sb /\ ad.block ≠ mb)
  (hb : Below w.heap.size w w6) (ho : Own w6 w.heap.size (.slice a1 128 c1) bs) (hbl : bs.length = 128) (ht : w6.mapTurned w7 mb) (hL7 : MapAt numS Tryz.prog TI64 w7 mb (putK numS i (.slice a1 128 c1) L)) :
  Dk (w7.setCell ⟨d,2,none⟩ (.int .i64 u)) d sb mb n S (updM M i bs) /\ Chg (fun k => k = d ∨ k = mb) w (w7.setCell ⟨d,2,none⟩ (.int .i64 u)):=by
 have hlt:=h.lt
 have h6:=h.below hb
 obtain ⟨hne,hS,hn,⟨cap',wr',q4,q5⟩,_⟩:=h6
 have hcp : cap' = cap:=by
  have e:=q4.symm.trans ((hb.block d hlt.1).trans h4)
  injection e with e; injection e with e _ _; simp at e; exact e.1
 rw [hcp] at q5
 have hc7:=turned_chg ht
 have hC : Chg (fun k => k = d ∨ k = mb) w6 (w7.setCell ⟨d,2,none⟩ (.int .i64 u)):=(hc7.mono (fun k _ hk => .inr hk)).setCell (p:=⟨d,2,none⟩) (fun _ => .inl rfl) _
 have hCw:=(Chg.of_below hb (fun k => k = d ∨ k = mb)).trans hC (fun _ _ h => h)
 have hsz:=hb.size
 have hd7 : w7.heap[d]? = some (.cells #[.slice (some ⟨sb,0,none⟩) (128 * n) cap,.map (some mb),.int .i64 wr] TDisk (0,0)):=(hc7.block d (by omega) hne.2.1).trans ((hb.block d hlt.1).trans h4)
 have hBn : Bs w6 a1 128 c1 bs:=by
  obtain ⟨a,c,e,hB⟩:=ho.bsn hbl
  injection e with e1 e2 e3
  subst e1 e3
  exact hB
 refine ⟨⟨hne,hS,hn,⟨cap,u,cells_set (k:=2) (y:=.int .i64 u) hd7,hC.row q5 (fun hk => hk.elim (fun e => hne.1 e.symm) hne.2.2)⟩,putK numS i (.slice a1 128 c1) L,?_,fun j hj => ?_,fun j v hj => ?_⟩,hCw⟩
 ·exact hL7.same numS (Below.heap_setCell _ _ _ _ (by show mb ≠ d; exact fun e => hne.2.1 e.symm))
 ·rw [getK_put] at hj
  unfold updM
  by_cases hji : j = i
  ·simp [hji] at hj
  ·rw [if_neg hji] at hj ⊢
   exact hL0 j hj
 ·rw [getK_put] at hj
  unfold updM
  by_cases hji : j = i
  ·subst hji
   rw [if_pos rfl] at hj ⊢
   injection hj with hj
   have hblk : ∀ ad,a1 = some ad -> w.heap.size <= ad.block:=fun ad had => by
    rcases ho.parts with ⟨e1,_⟩ | ⟨g,cp,e1,e2,_⟩
    ·injection e1 with e1; rw [e1] at had; cases had
    ·injection e1 with e1; rw [e1] at had; injection had with had; subst had; exact e2
   refine ⟨hi,a1,c1,bs,hj.symm,hC.bs hBn (fun ad had hk => ?_),rfl,fun ad had => ?_⟩
   ·have:=hblk ad had; rcases hk with hk | hk <;> omega
   ·have:=hblk ad had; omega
  ·rw [if_neg hji] at hj ⊢
   obtain ⟨h1,a,c,bs',h2,h3,h5,h7⟩:=hL1 j v hj
   refine ⟨h1,a,c,bs',h2,hC.bs (h3.below hb) (fun ad had hk => ?_),h5,h7⟩
   have:=h7 ad had
   rcases hk with hk | hk
   ·exact this.1 hk
   ·exact this.2.2 hk
theorem dwrite_any {w : World} {d sb mb n : Nat} {S : List UInt8} {M : Nat -> Option (List UInt8)} (h : Dk w d sb mb n S M) (i : Nat) (hi : i < n) (a : Option Addr) (c : Nat) (bs : List UInt8) (hB : Bs w a 128 c bs) :
  Calls Tryz.prog 95 #[.pointer (some ⟨d,0,none⟩),.int .i64 (i : Int),.slice a 128 c] w fun e w' => e = .returned (.int .i64 0) /\ Dk w' d sb mb n S (updM M i bs) /\ Chg (fun k => k = d ∨ k = mb) w w':=by
 have HI:=qh (is_any h (i : Int))
 rw [decide_eq_true ⟨by omega,by omega⟩] at HI
 have HD:=qh h
 have hdl:=h.lt.1
 obtain ⟨hne,hS,hn,⟨cap,wr,h4,h5⟩,L,hL,hL0,hL1⟩:=h
 have HLL:=qh (HD.out.len_le hL hn (fun i v hv => (hL1 i v hv).1))
 have HH4:=qh (aI h4 (aI hL0 (aI hL1 hB.1)))
 have c1:=cells_at h4 1
 clear h4 h5 hL0 hL1 hS
 have hin : i <= 4096:=by omega
 go_enter Tryz.func95,Tryz.ntmps95
 go_wp2_with fail
 refine HI.out.mono ?_
 rintro e wk ⟨rfl,rfl⟩
 go_upto_region 3 with fail
 refine heldB_start (fun i => [0,1,2,3,4,5,6].contains i) (fun w' => w'.cell? ⟨d,1,none⟩ = some (.map (some mb))) (by kernel_rfl) ?_ (fun hHeld => ?_)
 ·go_keep
 refine qtk 0 16 ?_
 simp only [qz0,qz1]
 refine qtk 1 17 ?_
 simp only [qz0,qz1]
 refine qtk 2 18 ?_
 simp only [qz0,qz1]
 refine qtk 3 19 ?_
 simp only [qz0,qz1]
 refine qtk 4 20 ?_
 simp only [qz0,qz1]
 refine qtk 5 21 ?_
 simp only [qz0,qz1]
 refine qone 6 fun K hK => ?_
 go_simp
 refine (clone_any a 128 c bs _ hB.drew (by unfold big; omega)).mono ?_
 rintro e w6 ⟨v,rfl,ho,hb⟩
 obtain ⟨a1,c1,rfl,hB1⟩:=ho.bsn (n:=128) hB.1
 have hHeld : ((fun w' => w'.cell? ⟨d,1,none⟩ = some (.map (some mb)))) w6:=(hb.cell (p:=⟨d,1,none⟩) hdl).trans hHeld
 have hL1:=(hL.below numS (Below.refl _ _).drew).below numS hb
 obtain ⟨w7,hr7,hL7,ht7⟩:=hL1.put numS dkeyed Tryz.underlying76 HLL.out (dkey i (by omega)) (.slice a1 128 c1)
 have HL7:=qh (aI ho (aI hb (aI hL7 ht7)))
 clear hL1 hL7 ht7 ho hb hB1
 go_wp2_with fail
 refine hK.out _ _ (fun _ => hHeld) ?_
 clear hK K
 refine qone 7 fun K hK => ?_
 refine step_mapput (by rfl) (.tmp 19) (.tmp 20) (.tmp 22) 76 rfl _ _ _ (by rfl) (by rfl) (by rfl) hr7 ?_
 go_wp2_with fail
 refine hK.out _ _ (fun h => by simp at h) ?_
 clear hK K
 refine qdon ?_
 obtain ⟨ho,hb,hL7,ht7⟩:=HL7.out
 obtain ⟨h4,hL0,hL1,hbl⟩:=HH4.out
 have hb6 : Below w.heap.size w w6:=(Below.refl _ w).drew.trans hb
 have hd7 : w7.heap[d]? = some (.cells #[.slice (some ⟨sb,0,none⟩) (128 * n) cap,.map (some mb),.int .i64 wr] TDisk (0,0)):=((turned_chg ht7).block d (Nat.lt_of_lt_of_le hdl hb6.size) hne.2.1).trans ((hb6.block d hdl).trans h4)
 have c2:=cells_at hd7 2
 have f2 : w7.frozen? ⟨d,2,none⟩ = false:=by simp [World.frozen?,hd7]
 have HFIN:=qh (fun u => dk_write HD.out hi u h4 hL0 hL1 hb6 ho hbl ht7 hL7)
 clear ho hb hL7 ht7 h4 hL0 hL1 hbl hb6 hd7 hHeld HH4 HL7
 go_wp2_with fail
 go_ret
 exact ⟨rfl,HFIN.out _⟩
theorem new_dk (w : World) (n : Nat) (hn : n <= 4096) :
  Dk (((w.alloc (.cells (madeCells #[.int .u8 0] (128 * n)) TB)).alloc (.map #[] 0)).alloc (.cells #[.slice (some ⟨w.heap.size,0,none⟩) (128 * n) (128 * n),.map (some (w.heap.size + 1)),.int .i64 0] TDisk)) (w.heap.size + 2) w.heap.size (w.heap.size + 1) n (List.replicate (128 * n) 0) (fun _ => none):=by
 have hR:=Row.zero w (128 * n) (by unfold maxLen; omega)
 have hM:=MapAt.made numS (P:=Tryz.prog) (k:=TI64) (w.alloc (.cells (madeCells #[.int .u8 0] (128 * n)) TB))
 have hd:=heap_alloc_new ((w.alloc (.cells (madeCells #[.int .u8 0] (128 * n)) TB)).alloc (.map #[] 0)) (.cells #[.slice (some ⟨w.heap.size,0,none⟩) (128 * n) (128 * n),.map (some (w.heap.size + 1)),.int .i64 0] TDisk)
 simp only [World.size_alloc,Nat.add_assoc,Nat.reduceAdd] at hd hM
 refine ⟨⟨by omega,by omega,by omega⟩,by simp,hn,⟨128 * n,0,hd,(hR.alloc _).alloc _⟩,[],?_,fun _ _ => rfl,fun i v h => by simp [getK] at h⟩
 exact hM.same numS (Below.heap_alloc _ _ _ (by simp))
def NewPost (w : World) (n : Nat) (e : Ending) (w' : World) : Prop:=∃ d sb mb,e = .returned (.tuple #[.pointer (some ⟨d,0,none⟩),.int .i64 0]) /\ Dk w' d sb mb n (List.replicate (128 * n) 0) (fun _ => none) /\ w.heap.size <= d /\ w.heap.size <= sb /\ w.heap.size <= mb /\ Below w.heap.size w w'
theorem dnew_any (n : Nat) (w : World) (h1 : 64 <= n) (h2 : n <= 4096) :
  Calls Tryz.prog 9 #[.int .i64 (n : Int)] w (NewPost w n):=by
 have hmk:=run_make_bytes (128 * n) (by omega) w
 rw [show ((128 * n : Nat) : Int) = 128 * (n : Int) by omega] at hmk
 have hmm:=@run_makeMap Tryz.prog
 have e1 : IntKind.i64.wrap ((n : Int) * 128) = ((128 * n : Nat) : Int):=by rw [IntWalk.i64_in _ (by omega)]; omega
 have e2 : ¬ (n : Int) < 64:=by omega
 have e3 : ¬ (4096 : Int) < (n : Int):=by omega
 have HN:=qh (new_dk w n h2)
 go_enter Tryz.func9,Tryz.ntmps9
 go_wp2_with fail
 go_ret2
 refine ⟨w.heap.size + 2,w.heap.size,w.heap.size + 1,rfl,HN.out,by omega,by omega,by omega,?_⟩
 exact (((Below.refl _ w).alloc (Nat.le_refl _) _).alloc (by simp) _).alloc (by simp; omega) _
end
end Go.Proofs.YtabdcphioccgnaaGreatDoor
