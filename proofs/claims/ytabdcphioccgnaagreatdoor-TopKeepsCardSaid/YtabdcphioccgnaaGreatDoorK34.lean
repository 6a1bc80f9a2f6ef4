/- SegRead; SegNo. -/
import Derived.Test.YtabdcphioccgnaaGreatDoorK24
import Derived.Test.YtabdcphioccgnaaGreatDoorK33
set_option maxRecDepth 100000
set_option maxHeartbeats 8000000
namespace Go.Proofs.YtabdcphioccgnaaGreatDoor
section
open Go.RowKit
abbrev THd : TypeId:=144
theorem ownr_other {W W' : World} {l : Nat} {v : Value} {rs : List Rc} {B : Nat} {C : Array Value} {ty : TypeId} {fr : Nat × Nat} (hz : W.heap[l]? = some (.cells C ty fr)) (h1 : ty ≠ TRec) (h2 : ty ≠ TB) (hc : Chg (fun k => k = l) W W') (ho : OwnR W B v rs) : OwnR W' B v rs:=by
 refine ⟨?_,fun r hr => ⟨(ho.2 r hr).1,(ho.2 r hr).2.1,hc.own (ho.2 r hr).2.2 (fun k hk e => ?_)⟩⟩
 ·refine World.ownsRow.kept ho.1 (row:=some l) ⟨hc.os,hc.tape,hc.output,hc.size,fun k hk hne => hc.block k hk (fun e => hne (by rw [e]))⟩ ?_
  cases hv : v.ownBlock with
  | none => exact .inl rfl
  | some b =>
   refine .inr fun e => ?_
   injection e with e
   obtain ⟨C2,fr2,h3⟩:=ho.ty b hv
   rw [e,hz] at h3; injection h3 with h3; injection h3 with _ h3; exact h1 h3
 ·obtain ⟨C2,fr2,h3⟩:=(ho.2 r hr).2.2.tyb k hk
  rw [e,hz] at h3; injection h3 with h3; injection h3 with _ h3; exact h2 h3
theorem chg6 (w : World) (b : Nat) (v0 v1 v2 v3 v4 v5 : Value) : Chg (fun k => k = b) w ((((((w.setCell ⟨b,0,none⟩ v0).setCell ⟨b,1,none⟩ v1).setCell ⟨b,2,none⟩ v2).setCell ⟨b,3,none⟩ v3).setCell ⟨b,4,none⟩ v4).setCell ⟨b,5,none⟩ v5) :=
 (((((chg_set w b 0 v0).two (chg_set _ b 1 v1)).two (chg_set _ b 2 v2)).two (chg_set _ b 3 v3)).two (chg_set _ b 4 v4)).two (chg_set _ b 5 v5)
theorem segHead_length (i f c n : Nat) (P R : List UInt8) (hP : P.length = 32) (hR : R.length = 32) : (segHead i f c n P R).length = 78:=by simp [segHead,be_length,hP,hR]
def hd6 (w : World) (M i f c n : Nat) (pa ra : Option Addr) (pc rc : Nat) : Prop:=w.heap[M]? = some (.cells (hdCells i f c n pa pc ra rc) THd (0,0))
theorem hd6.cells {w : World} {M i f c n : Nat} {pa ra : Option Addr} {pc rc : Nat} (h : hd6 w M i f c n pa ra pc rc) :
  w.cell? ⟨M,0,none⟩ = some (.int .i64 (i : Int)) /\ w.cell? ⟨M,1,none⟩ = some (.int .u64 (f : Int)) /\ w.cell? ⟨M,2,none⟩ = some (.int .i64 (c : Int)) /\ w.cell? ⟨M,3,none⟩ = some (.int .i64 (n : Int)) /\ w.cell? ⟨M,4,none⟩ = some (.slice pa 32 pc) /\ w.cell? ⟨M,5,none⟩ = some (.slice ra 32 rc) :=
 ⟨cells_at h 0,cells_at h 1,cells_at h 2,cells_at h 3,cells_at h 4,cells_at h 5⟩
theorem hd6.below {w w' : World} {M i f c n : Nat} {pa ra : Option Addr} {pc rc : Nat} (h : hd6 w M i f c n pa ra pc rc) (hb : Below w.heap.size w w') : hd6 w' M i f c n pa ra pc rc:=(hb.block M (ltH h)).trans h
theorem bytes_of_core : ∀ {ls' ls : List Rc},ls'.map Rc.core = ls.map Rc.core -> ls'.map Rc.bytes = ls.map Rc.bytes
 | [],[],_ => rfl
 | [],_ :: _,h => by simp at h
 | _ :: _,[],h => by simp at h
 | x :: xs,y :: ys,h => by
  simp only [List.map_cons,List.cons.injEq] at h ⊢
  refine ⟨?_,bytes_of_core h.2⟩
  obtain ⟨h1,h2,h3⟩:=Prod.mk.injEq .. ▸ (show (x.k,x.q,x.ys) = (y.k,y.q,y.ys) from h.1) |> fun h => (by simpa using h : x.k = y.k /\ x.q = y.q /\ x.ys = y.ys)
  unfold Rc.bytes
  rw [h1,h2,h3]
theorem ok_of_core {w : World} {B : Nat} : ∀ {ls' ls : List Rc},ls'.map Rc.core = ls.map Rc.core -> (∀ r ∈ ls,RecOk r.k r.q r.ys.length) -> (∀ r ∈ ls',r.q < 18446744073709551616 /\ r.ys.length = r.m /\ Own w B (.slice r.a r.m r.c) r.ys) -> ∀ r ∈ ls',RecOk r.k r.q r.m:=by
 intro ls' ls h hok hr r hm
 have h1 : r.core ∈ ls.map Rc.core:=by rw [<- h]; exact List.mem_map_of_mem hm
 obtain ⟨s,hs,he⟩:=List.mem_map.1 h1
 have h2:=hok s hs
 obtain ⟨e1,e2,e3⟩ : s.k = r.k /\ s.q = r.q /\ s.ys = r.ys:=by simpa [Rc.core] using he
 rw [e1,e2,e3,(hr r hm).2.1] at h2
 exact h2
theorem leaf_le : ∀ {ls : List Rc},∀ x ∈ ls.map Rc.bytes,x.length <= (allB ls).length
 | [],x,h => by simp at h
 | r :: rs,x,h => by
  rw [allB_cons,List.length_append]
  rcases List.mem_cons.1 h with rfl | h
  ·omega
  ·have:=leaf_le x h
   omega
theorem nil0_zeros (k : Nat) : nil0 (List.replicate k 0) = true:=by
 unfold nil0
 rw [List.all_eq_true]
 intro x hx
 obtain rfl:=(List.mem_replicate.1 hx).2
 rfl
theorem segread_ok (i f : Nat) (P : List UInt8) (ls : List Rc) (a : Option Addr) (cap : Nat) (w : World) (hB : Bs w a 1024 cap (segBytes i f P ls)) (hi : i <= 65535) (hf : f <= 4611686018427387904) (hP : P.length = 32)
  (hok : ∀ r ∈ ls,RecOk r.k r.q r.ys.length) (hseq : ∀ j (h : j < ls.length),ls[j].q = f + j) (hn0 : 0 < ls.length) (hll : ls.length <= 1000) (hall : (allB ls).length <= 942) :
  Calls Tryz.prog 76 #[.slice a 1024 cap] w fun e w' => ∃ pa ra pc rc v ls',e = .returned (.tuple #[.agg (hdCells i f ls.length ((allB ls).length : Nat) pa pc ra rc),v,.int .i64 0]) /\
   Own w' w.heap.size (.slice pa 32 pc) P /\ Own w' w.heap.size (.slice ra 32 rc) (mroot (ls.map Rc.bytes)) /\ OwnR w' w.heap.size v ls' /\ ls'.map Rc.core = ls.map Rc.core /\ Below w.heap.size w w':=by
 obtain ⟨R,hR⟩:=qnm (mroot (ls.map Rc.bytes))
 have hRl : R.length = 32:=by rw [hR]; exact mroot_length _
 obtain ⟨c,hc⟩:=qnm ls.length
 obtain ⟨n,hn⟩:=qnm ((allB ls).length)
 obtain ⟨HD,hHD⟩:=qnm (segHead i f c n P R)
 have hHl : HD.length = 78:=by rw [hHD]; exact segHead_length _ _ _ _ _ _ hP hRl
 obtain ⟨C,hC⟩:=qnm (crcMore 0 HD)
 have hCl:=crcMore_lt 0 HD
 rw [<- hC] at hCl
 have e0 : segBytes i f P ls = HD ++ (be C 4 ++ (allB ls ++ List.replicate (942 - n) 0)):=by
  unfold segBytes
  rw [<- hR,<- hc,<- hn,<- hHD,<- hC]
 rw [e0] at hB
 rw [<- hc] at hn0 hll ⊢
 rw [<- hn] at hall ⊢
 rw [<- hR]
 have hcap:=hB.2.1
 have hcm:=hB.2.2.1
 -- the parts of the row
 have hB1:=hB.take (k:=78) (by omega)
 rw [List.take_left' hHl] at hB1
 have hd78 : (HD ++ (be C 4 ++ (allB ls ++ List.replicate (942 - n) 0))).drop 78 = be C 4 ++ (allB ls ++ List.replicate (942 - n) 0):=List.drop_left' hHl
 have hd82 : (HD ++ (be C 4 ++ (allB ls ++ List.replicate (942 - n) 0))).drop 82 = allB ls ++ List.replicate (942 - n) 0:=by
  rw [show 82 = 78 + 4 by rfl,<- List.drop_drop,hd78,List.drop_left' (be_length _ _)]
 have hdn : (HD ++ (be C 4 ++ (allB ls ++ List.replicate (942 - n) 0))).drop (82 + n) = List.replicate (942 - n) 0:=by
  rw [<- List.drop_drop,hd82,List.drop_left' hn.symm]
 have hB2:=(hB.drop (k:=78) (by omega)).take (k:=4) (by omega)
 rw [hd78,List.take_left' (be_length _ _)] at hB2
 have hB3:=(hB.drop (k:=82) (by omega)).take (k:=n) (by omega)
 rw [hd82,List.take_left' hn.symm] at hB3
 obtain ⟨K,hK⟩:=qnm (82 + n)
 rw [<- hK] at hdn
 have hB4:=hB.drop (k:=K) (by omega)
 rw [hdn] at hB4
 obtain ⟨ad4,had4⟩ : ∃ ad,(if cap = K then a else a.map (·.add K)) = ad:=⟨_,rfl⟩
 rw [had4] at hB4
 rw [if_neg (by omega)] at hB2 hB3
 obtain ⟨a78,h78⟩ : ∃ x,Option.map (fun x => ({ block:=x.block,off:=x.off + 78 } : Addr)) a = x:=⟨_,rfl⟩
 obtain ⟨a82,h82⟩ : ∃ x,Option.map (fun x => ({ block:=x.block,off:=x.off + 82 } : Addr)) a = x:=⟨_,rfl⟩
 replace hB2 : Bs w a78 4 (cap - 78) (be C 4):=by rw [<- h78]; exact hB2
 replace hB3 : Bs w a82 n (cap - 82) (allB ls):=by rw [<- h82]; exact hB3
 have k1 : (78 : Int) <= (cap : Int):=by omega
 have k2 : (82 : Int) <= (cap : Int):=by omega
 have k3 : ¬ cap = 78:=by omega
 have k4 : ¬ cap = 82:=by omega
 have hRD : HD ++ (be C 4 ++ (allB ls ++ List.replicate (942 - n) 0)) = be i 2 ++ (be f 8 ++ (be c 2 ++ (be n 2 ++ (P ++ (R ++ (be C 4 ++ (allB ls ++ List.replicate (942 - n) 0))))))):=by
  rw [hHD]; unfold segHead; simp only [List.append_assoc]
 rw [hRD] at hB
 obtain ⟨w0,hw0⟩:=qnm (w.alloc (.cells #[.int .i64 0,.int .u64 0,.int .i64 0,.int .i64 0,.slice none 0 0,.slice none 0 0] THd))
 have hb0:=qba hw0
 have hz0 : w0.heap[w.heap.size]? = some (.cells #[.int .i64 0,.int .u64 0,.int .i64 0,.int .i64 0,.slice none 0 0,.slice none 0 0] THd (0,0)):=by rw [hw0]; exact heap_alloc_new w _
 have HNW:=qh (rc_new a 1024 cap _ w0 (hB.below hb0) (by unfold big; omega))
 obtain ⟨H,hH⟩:=qnm w.heap.size
 rw [<- hH] at hz0
 have HX:=qh (aI hok (aI hseq (aI hR (aI hc (aI hn (aI hP hRl))))))
 have HB:=qh (aI hB1 (aI hB2 (aI hB3 hB4)))
 have HW0:=qh (aI hw0 (aI hb0 (aI hz0 hH)))
 have HK:=qh (aI hK had4)
 have hKi : (82 : Int) + (n : Int) = (K : Int):=by omega
 have HC:=qh (aI hC hCl)
 have HFB:=qh (aI hf (aI hn0 (aI hll hcm)))
 clear hok hseq hR hB hB1 hB2 hB3 hB4 hw0 hb0 hz0 hH hK hC hCl e0 hHD hHl hd78 hd82 hdn hRD hRl hc hn
 have e1 : IntKind.i64.wrap (82 + (n : Int)) = (K : Int):=by rw [IntWalk.i64_in _ (by omega)]; omega
 clear hKi
 go_enter Tryz.func76,Tryz.ntmps76
 go_upto_region 3 with fail
 rw [<- HW0.out.1,<- HW0.out.2.2.2]
 go_wp2_with fail
 refine HNW.out.mono ?_
 rintro e w1 ⟨q,rb,rfl,hR1,hb1⟩
 have HL1:=qh (rc_short i hR1 (by omega))
 have H1:=qh (aI hb1 (aI hR1.rd.1 hR1.qlt))
 clear hR1 hb1 HNW
 go_wp2_with fail
 refine HL1.out.mono ?_
 rintro e w2 ⟨rfl,hR2,hc2⟩
 have HL2:=qh (rc_long f hR2 (by have:=HFB.out.1; omega))
 have H2:=qh hc2
 clear hR2 hc2 HL1
 go_wp2_with fail
 refine HL2.out.mono ?_
 rintro e w3 ⟨rfl,hR3,hc3⟩
 have HL3:=qh (rc_short c hR3 (by omega))
 have H3:=qh (H2.out.two hc3)
 clear hR3 hc3 HL2 H2
 go_wp2_with fail
 refine HL3.out.mono ?_
 rintro e w4 ⟨rfl,hR4,hc4⟩
 have HL4:=qh (rc_short n hR4 (by omega))
 have H4:=qh (H3.out.two hc4)
 clear hR4 hc4 HL3 H3
 go_wp2_with fail
 refine HL4.out.mono ?_
 rintro e w5 ⟨rfl,hR5,hc5⟩
 have HL5:=qh (rc_raw P 32 hR5 (by rw [hP]; rfl))
 have H5:=qh (H4.out.two hc5)
 clear hR5 hc5 HL4 H4
 go_wp2_with fail
 refine HL5.out.mono ?_
 rintro e w6 ⟨⟨vp,rfl,hop⟩,hR6,hc6⟩
 have HL6:=qh (rc_raw R 32 hR6 (by rw [HX.out.2.2.2.2.2.2]; rfl))
 have H6:=qh (aI (H5.out.two hc6) hop)
 obtain ⟨pa,pc,rfl,_⟩:=hop.bsn (n:=32) hP
 clear hR6 hc6 HL5 hop
 go_wp2_with fail
 refine HL6.out.mono ?_
 rintro e w7 ⟨⟨vr,rfl,hor⟩,hR7,hc7⟩
 obtain ⟨ra,rc,rfl,_⟩:=hor.bsn (n:=32) HX.out.2.2.2.2.2.2
 obtain ⟨w8,hw8⟩:=qnm (w7.alloc (.cells #[.int .i64 (i : Int),.int .u64 (f : Int),.int .i64 (c : Int),.int .i64 (n : Int),.slice pa 32 pc,.slice ra 32 rc] THd))
 obtain ⟨M,hM⟩:=qnm w7.heap.size
 have H8 : Hid (hd6 w8 M i f c n pa ra pc rc /\ Own w8 w1.heap.size (.slice pa 32 pc) P /\ Own w8 w1.heap.size (.slice ra 32 rc) R /\ Below w0.heap.size w0 w8):=qh (by
  have hb8:=qba hw8
  obtain ⟨hc16,hop⟩:=H6.out
  have hc17:=hc16.two hc7
  have s5:=H5.out.size
  have s6:=hc16.size
  obtain ⟨hb1,hq0,hq1⟩:=H1.out
  refine ⟨by rw [hM,hw8]; exact heap_alloc_new w7 _,((rc_own hop (by omega) hc7).base s5).below hb8,(hor.base s6).below hb8,?_⟩
  exact (hb1.trans (hc17.below hb1.size (fun k _ e => by omega))).trans (hb8.mono (Nat.le_trans hb1.size hc17.size)))
 have HWM:=qh (aI hw8 hM)
 clear hor hR7 hc7 HL6 hw8 hM
 go_upto_region 11 with (first
  | (rw [<- HWM.out.1]; rw [<- HWM.out.2])
  | fail)
 obtain ⟨hb1,hb2,hb3,hb4⟩:=HB.out
 have hbw8 : Below w.heap.size w w8:=HW0.out.2.1.trans (H8.out.2.2.2.mono HW0.out.2.1.size)
 have hbw8d:=hbw8.drew
 have HSM:=qh (sum_any _ _ _ _ _ (hb1.below hbw8d))
 rw [<- HC.out.1] at HSM
 have HFR:=qh (four_any C w8.drew HC.out.2)
 have HE2:=qh (show ∀ W,Below w.heap.size w W -> Bs W a78 4 (cap - 78) (be C 4) from fun W h => hb2.below h)
 have HBW:=qh hbw8
 clear hb1 hb2 hb3 hb4 hbw8 hbw8d
 refine heldB_start (fun i => [].contains i) (fun _ => True) (by kernel_rfl) ?_ (fun hHeld => ?_)
 ·trivial
 refine qfr 0 36 ?_
 simp only [qz0,qz1]
 refine qfr 1 37 ?_
 simp only [qz0,qz1]
 refine qfr 4 40 ?_
 simp only [qz0,qz1]
 refine qfr 5 41 ?_
 simp only [qz0,qz1]
 refine qone 2 fun K hK => ?_
 go_simp
 refine (HSM.out).mono ?_
 rintro e wx ⟨rfl,rfl⟩
 go_wp2_with fail
 refine hK.out _ _ (fun _ => hHeld) ?_
 clear hK K
 refine qone 3 fun K hK => ?_
 go_simp
 refine (HFR.out).mono ?_
 rintro e w10 ⟨vf,rfl,hof,hb10⟩
 obtain ⟨fa,fc,rfl,hBf⟩:=hof.bsn (n:=4) (be_length _ _)
 have HB10:=qh (show Below w8.heap.size w8 w10 from (Below.refl _ _).drew.trans hb10)
 have HEQ:=qh (beq_any fa a78 4 4 fc (cap - 78) _ _ w10 hBf (HE2.out w10 (HBW.out.trans (HB10.out.mono HBW.out.size))))
 rw [decide_eq_true rfl] at HEQ
 clear hof hb10 hBf
 go_wp2_with fail
 refine hK.out _ _ (fun _ => hHeld) ?_
 clear hK K
 refine qone 6 fun K hK => ?_
 go_simp
 refine (HEQ.out).mono ?_
 rintro e wy ⟨rfl,rfl⟩
 go_wp2_with fail
 refine hK.out _ _ (fun _ => hHeld) ?_
 clear hK K
 refine qfr 7 43 ?_
 simp only [qz0,qz1]
 refine qdon ?_
 clear hHeld HSM HFR HE2 HEQ
 obtain ⟨hd8,hop8,hor8,hbw08⟩:=H8.out
 have hd10:=hd8.below HB10.out
 obtain ⟨d0,d1,d2,d3,d4,d5⟩:=hd10.cells
 have hc0 : ((c : Int) == 0) = false:=by rw [beq_eq_false_iff_ne]; have:=HFB.out.2.1; omega
 have hn942 : ¬ (942 : Int) < (n : Int):=by omega
 have hK0:=HK.out.1
 have k5 : (82 : Int) <= (K : Int):=by omega
 have k6 : (K : Int) <= (cap : Int):=by omega
 have k7 : (K : Int) <= 1024:=by omega
 have hKs : K - 82 = n:=by omega
 clear hK0
 have hbw10 : Below w.heap.size w w10:=HBW.out.trans (HB10.out.mono HBW.out.size)
 have HRC:=qh (records_any a82 n (cap - 82) ls w10.drew i f n pa ra pc rc (HB.out.2.2.1.below hbw10.drew) (by omega) HX.out.1 HX.out.2.1 HFB.out.1 (by rw [<- HX.out.2.2.2.1]; exact hll))
 rw [<- HX.out.2.2.2.1] at HRC
 have H10:=qh (aI hd10 hbw10)
 have hMl:=ltH hd10
 clear hd8 hop8 hor8 hbw08 hd10 hbw10
 go_upto_region 15 with fail
 refine heldB_start (fun i => [0,1,2,3,4,5,6,7,8,9,10,11].contains i) (fun w' => w'.cell? ⟨M,0,none⟩ = some (.int .i64 (i : Int)) /\ w'.cell? ⟨M,1,none⟩ = some (.int .u64 (f : Int)) /\ w'.cell? ⟨M,2,none⟩ = some (.int .i64 (c : Int)) /\ w'.cell? ⟨M,3,none⟩ = some (.int .i64 (n : Int)) /\ w'.cell? ⟨M,4,none⟩ = some (.slice pa 32 pc) /\ w'.cell? ⟨M,5,none⟩ = some (.slice ra 32 rc)) (by kernel_rfl) ?_ (fun hHeld => ?_)
 ·exact ⟨d0,d1,d2,d3,d4,d5⟩
 refine qtk 0 55 ?_
 simp only [qz0,qz1]
 refine qtk 1 56 ?_
 simp only [qz0,qz1]
 refine qtk 2 57 ?_
 simp only [qz0,qz1]
 refine qtk 3 58 ?_
 simp only [qz0,qz1]
 refine qtk 4 59 ?_
 simp only [qz0,qz1]
 refine qtk 5 60 ?_
 simp only [qz0,qz1]
 refine qone 6 fun K hK => ?_
 go_simp
 refine (HRC.out).mono ?_
 rintro e w12 ⟨v12,ls',rfl,hor12,hco12,hb12⟩
 have hb12' : Below w10.heap.size w10 w12:=(Below.refl _ _).drew.trans hb12
 have hd12:=H10.out.1.below hb12'
 have hHeld:=hd12.cells
 have H12:=qh (aI hd12 (aI (H10.out.2.trans (hb12'.mono H10.out.2.size)) (aI (hor12.grownTo H10.out.2.size) hco12)))
 have HB12:=qh (show Below w8.heap.size w8 w12 from HB10.out.trans (hb12'.mono HB10.out.size))
 clear hb12 hb12' hd12 hor12 hco12
 go_wp2_with fail
 refine hK.out _ _ (fun _ => hHeld) ?_
 clear hK K
 refine qtk 7 54 ?_
 simp only [qz0,qz1]
 refine qtk 8 62 ?_
 simp only [qz0,qz1]
 refine qtk 9 63 ?_
 simp only [qz0,qz1]
 refine qtk 10 7 ?_
 simp only [qz0,qz1]
 refine qtk 11 8 ?_
 simp only [qz0,qz1]
 refine qdon ?_
 clear hHeld HRC
 obtain ⟨hd12,hbw12,hor12,hco12⟩:=H12.out
 obtain ⟨d0,d1,d2,d3,d4,d5⟩:=hd12.cells
 have HTR:=qh (trim_any ad4 (1024 - K) (cap - K) _ w12 (HB.out.2.2.2.below hbw12))
 rw [nil0_zeros] at HTR
 have had4:=HK.out.2
 have hlc : ls'.length = c:=by
  have:=congrArg List.length hco12
  simp only [List.length_map] at this
  rw [this,HX.out.2.2.2.1]
 obtain ⟨va,vc,rfl,hrec⟩:=hor12.recs hlc
 have HLC:=qh hlc
 clear hd12 hbw12 hor12 hco12 hrec hlc
 go_upto_region 16 with fail
 go_wp2_with fail
 refine HTR.out.mono ?_
 rintro e w13 ⟨⟨at1,kt,ct1,rfl,hkt⟩,hb13⟩
 obtain rfl : kt = 0:=by
  rcases Nat.eq_zero_or_pos kt with h | h
  ·exact h
  ·exact absurd (hkt.1 h) (by simp)
 have HB13:=qh hb13
 clear hkt hb13 HTR had4
 go_upto_region 18 with fail
 obtain ⟨hd12,hbw12,hor12,hco12⟩:=H12.out
 have hd13:=hd12.below HB13.out
 have hmap : ls'.map Rc.bytes = ls.map Rc.bytes:=bytes_of_core hco12
 obtain ⟨va2,vc2,hv2,hrec⟩:=(hor12.below HB13.out).recs HLC.out
 injection hv2 with hv2 hv3 hv4
 subst hv2 hv4
 clear hv3
 obtain ⟨d0,d1,d2,d3,d4,d5⟩:=hd13.cells
 have HLV:=qh (leaves_any va c vc ls' w13.drew (hrec.below (Below.refl _ _).drew) hll (ok_of_core hco12 HX.out.1 (hor12.2)))
 rw [hmap] at HLV
 have hbw13 : Below w.heap.size w w13.drew:=(hbw12.trans (HB13.out.mono hbw12.size)).drew
 have H13:=qh (show hd6 w13.drew M i f c n pa ra pc rc /\ Below w.heap.size w w13.drew /\ Below w12.heap.size w12 w13.drew from ⟨hd13,hbw13,HB13.out.drew⟩)
 have hb813 : Below w8.heap.size w8 w13.drew:=(HB12.out.trans (HB13.out.mono HB12.out.size)).drew
 have H813:=qh hb813
 have HRA:=qh (show ∀ W,Below w13.drew.heap.size w13.drew W -> Bs W ra 32 rc R from fun W hb => by
  obtain ⟨x1,x2,e,hBx⟩:=(H8.out.2.2.1.below (hb813.trans (hb.mono hb813.size))).bsn (n:=32) HX.out.2.2.2.2.2.2
  injection e with e1 _ e3
  rw [e1,e3]
  exact hBx)
 clear hb813
 have hlx : (ls.map Rc.bytes).length = c:=by rw [List.length_map]; exact HX.out.2.2.2.1.symm
 have HLX:=qh (aI hlx (show ∀ x ∈ ls.map Rc.bytes,x.length <= 1000 from fun x hx => by have:=leaf_le x hx; have:=HX.out.2.2.2.2.1; omega))
 clear hd12 hbw12 hor12 hco12 hd13 hbw13 hrec hmap hlx
 refine heldB_start (fun i => [0,1,2,3,4,5,6].contains i) (fun w' => w'.cell? ⟨M,0,none⟩ = some (.int .i64 (i : Int)) /\ w'.cell? ⟨M,1,none⟩ = some (.int .u64 (f : Int)) /\ w'.cell? ⟨M,2,none⟩ = some (.int .i64 (c : Int)) /\ w'.cell? ⟨M,3,none⟩ = some (.int .i64 (n : Int)) /\ w'.cell? ⟨M,4,none⟩ = some (.slice pa 32 pc) /\ w'.cell? ⟨M,5,none⟩ = some (.slice ra 32 rc)) (by kernel_rfl) ?_ (fun hHeld => ?_)
 ·exact ⟨d0,d1,d2,d3,d4,d5⟩
 refine qtk 0 77 ?_
 simp only [qz0,qz1]
 refine qtk 3 80 ?_
 simp only [qz0,qz1]
 refine qtk 4 81 ?_
 simp only [qz0,qz1]
 refine qone 1 fun K hK => ?_
 go_simp
 refine (HLV.out).mono ?_
 rintro e w14 ⟨v14,rfl,ho14,hb14⟩
 have HB14:=qh hb14
 obtain ⟨la,lc,rfl,hLL⟩:=ho14.ll HLX.out.1
 have HRT:=qh (root_any c la lc _ w14 hLL HLX.out.2 hll)
 have hHeld:=(H13.out.1.below hb14).cells
 clear ho14 hb14 hLL
 go_wp2_with fail
 refine hK.out _ _ (fun _ => hHeld) ?_
 clear hK K
 refine qone 2 fun K hK => ?_
 go_simp
 refine (HRT.out).mono ?_
 rintro e w15 ⟨v15,rfl,ho15,hb15⟩
 rw [<- HX.out.2.2.1] at ho15
 obtain ⟨r5,c5,rfl,hB15⟩:=ho15.bsn (n:=32) HX.out.2.2.2.2.2.2
 have HB15:=qh (show Below w13.drew.heap.size w13.drew w15 from HB14.out.trans (hb15.mono HB14.out.size))
 have HEQ:=qh (beq_any r5 ra 32 32 c5 rc _ _ w15 hB15 (HRA.out w15 HB15.out))
 rw [decide_eq_true rfl] at HEQ
 have hHeld:=(H13.out.1.below HB15.out).cells
 clear ho15 hb15 hB15
 go_wp2_with fail
 refine hK.out _ _ (fun _ => hHeld) ?_
 clear hK K
 refine qone 5 fun K hK => ?_
 go_simp
 refine (HEQ.out).mono ?_
 rintro e wy ⟨rfl,rfl⟩
 go_wp2_with fail
 refine hK.out _ _ (fun _ => hHeld) ?_
 clear hK K
 refine qtk 6 83 ?_
 simp only [qz0,qz1]
 refine qdon ?_
 clear hHeld HLV HRT HEQ
 obtain ⟨hd13,hbw13,_⟩:=H13.out
 have hd15:=hd13.below HB15.out
 have hb815 : Below w8.heap.size w8 w15:=H813.out.trans (HB15.out.mono H813.out.size)
 have hb015 : Below w0.heap.size w0 w15:=H8.out.2.2.2.trans (hb815.mono H8.out.2.2.2.size)
 have hz15:=(hb015.block H (ltH HW0.out.2.2.1)).trans HW0.out.2.2.1
 obtain ⟨d0,d1,d2,d3,d4,d5⟩:=hd15.cells
 have z0 : w15.cell? ⟨H,0,none⟩ = some (.int .i64 0):=cells_at hz15 0
 have z1 : w15.cell? ⟨H,1,none⟩ = some (.int .u64 0):=cells_at hz15 1
 have z2 : w15.cell? ⟨H,2,none⟩ = some (.int .i64 0):=cells_at hz15 2
 have z3 : w15.cell? ⟨H,3,none⟩ = some (.int .i64 0):=cells_at hz15 3
 have z4 : w15.cell? ⟨H,4,none⟩ = some (.slice none 0 0):=cells_at hz15 4
 have z5 : w15.cell? ⟨H,5,none⟩ = some (.slice none 0 0):=cells_at hz15 5
 have f0:=frz_of hz15 0
 have f1:=frz_of hz15 1
 have f2:=frz_of hz15 2
 have f3:=frz_of hz15 3
 have f4:=frz_of hz15 4
 have f5:=frz_of hz15 5
 have hzl:=ltH hz15
 have HF : Hid (Own w15 w1.heap.size (.slice pa 32 pc) P /\ Own w15 w1.heap.size (.slice ra 32 rc) R /\ OwnR w15 w.heap.size (.slice va c vc) ls' /\ ls'.map Rc.core = ls.map Rc.core /\ Below w.heap.size w w15 /\ w15.heap[H]? = some (.cells #[.int .i64 0,.int .u64 0,.int .i64 0,.int .i64 0,.slice none 0 0,.slice none 0 0] THd (0,0)) /\ H < w1.heap.size):=qh (by
  obtain ⟨_,hop,hor,_⟩:=H8.out
  obtain ⟨_,hbw12,hor12,hco12⟩:=H12.out
  have hb1215 : Below w12.heap.size w12 w15:=H13.out.2.2.trans (HB15.out.mono H13.out.2.2.size)
  exact ⟨hop.below hb815,hor.below hb815,hor12.below hb1215,hco12,hbw12.trans (hb1215.mono hbw12.size),hz15,Nat.lt_of_lt_of_le (ltH HW0.out.2.2.1) H1.out.1.size⟩)
 clear hd13 hbw13 hd15 hb815 hb015 hz15 H13 H813 HRA HLX HLC H12 HB12 HB13 HB14 HB15
 go_wp2_with fail
 refine bodyPost_ret (v:=.tuple #[.agg (hdCells i f c n pa pc ra rc),.slice va c vc,.int .i64 0]) (by simp [results,Tryz.results76,go_sem,hdCells,z0,z1,z2,z3,z4,z5]) rfl ?_
 obtain ⟨g1,g2,g3,g4,g5,g6,g7⟩:=HF.out
 have hc6:=chg6 w15 H (.int .i64 (i : Int)) (.int .u64 (f : Int)) (.int .i64 (c : Int)) (.int .i64 (n : Int)) (.slice pa 32 pc) (.slice ra 32 rc)
 have hwl : w.heap.size <= w1.heap.size:=Nat.le_trans HW0.out.2.1.size H1.out.1.size
 have hHw:=HW0.out.2.2.2
 refine ⟨pa,ra,pc,rc,_,ls',rfl,(hc6.own g1 (fun k hk e => by have:=g1.ge k hk; omega)).base hwl,(hc6.own g2 (fun k hk e => by have:=g2.ge k hk; omega)).base hwl,ownr_other g6 (by decide) (by decide) hc6 g3,g4,g5.trans (hc6.below g5.size (fun k _ e => by omega))⟩
def noHd : Value:=.agg #[.int .i64 0,.int .u64 0,.int .i64 0,.int .i64 0,.slice none 0 0,.slice none 0 0]
theorem segread_sum (i f c n : Nat) (P R D rest : List UInt8) (a : Option Addr) (cap : Nat) (w : World) (hB : Bs w a 1024 cap (segHead i f c n P R ++ (D ++ rest))) (hi : i <= 65535) (hf : f <= 4611686018427387904) (hc : c <= 65535) (hn : n <= 65535) (hP : P.length = 32) (hR : R.length = 32) (hD : D.length = 4)
  (hne : be (crcMore 0 (segHead i f c n P R)) 4 ≠ D) :
  Calls Tryz.prog 76 #[.slice a 1024 cap] w fun e w' => e = .returned (.tuple #[noHd,.slice none 0 0,.int .i64 14]) /\ Below w.heap.size w w':=by
 obtain ⟨HD,hHD⟩:=qnm (segHead i f c n P R)
 have hHl : HD.length = 78:=by rw [hHD]; exact segHead_length _ _ _ _ _ _ hP hR
 rw [<- hHD] at hB hne
 obtain ⟨C,hC⟩:=qnm (crcMore 0 HD)
 have hCl:=crcMore_lt 0 HD
 rw [<- hC] at hCl hne
 have hcap:=hB.2.1
 have hcm:=hB.2.2.1
 have hB1:=hB.take (k:=78) (by omega)
 rw [List.take_left' hHl] at hB1
 have hd78 : (HD ++ (D ++ rest)).drop 78 = D ++ rest:=List.drop_left' hHl
 have hB2:=(hB.drop (k:=78) (by omega)).take (k:=4) (by omega)
 rw [hd78,List.take_left' hD] at hB2
 rw [if_neg (by omega)] at hB2
 obtain ⟨a78,h78⟩ : ∃ x,Option.map (fun x => ({ block:=x.block,off:=x.off + 78 } : Addr)) a = x:=⟨_,rfl⟩
 replace hB2 : Bs w a78 4 (cap - 78) D:=by rw [<- h78]; exact hB2
 have k1 : (78 : Int) <= (cap : Int):=by omega
 have k2 : (82 : Int) <= (cap : Int):=by omega
 have k3 : ¬ cap = 78:=by omega
 have hRD : HD ++ (D ++ rest) = be i 2 ++ (be f 8 ++ (be c 2 ++ (be n 2 ++ (P ++ (R ++ (D ++ rest)))))):=by
  rw [hHD]; unfold segHead; simp only [List.append_assoc]
 rw [hRD] at hB
 obtain ⟨w0,hw0⟩:=qnm (w.alloc (.cells #[.int .i64 0,.int .u64 0,.int .i64 0,.int .i64 0,.slice none 0 0,.slice none 0 0] THd))
 have hb0:=qba hw0
 have hz0 : w0.heap[w.heap.size]? = some (.cells #[.int .i64 0,.int .u64 0,.int .i64 0,.int .i64 0,.slice none 0 0,.slice none 0 0] THd (0,0)):=by rw [hw0]; exact heap_alloc_new w _
 have HNW:=qh (rc_new a 1024 cap _ w0 (hB.below hb0) (by unfold big; omega))
 obtain ⟨H,hH⟩:=qnm w.heap.size
 rw [<- hH] at hz0
 have HX:=qh (aI hR hP)
 have HB:=qh (aI hB1 hB2)
 have HW0:=qh (aI hw0 (aI hb0 (aI hz0 hH)))
 have HC:=qh (aI hC (aI hCl hne))
 have HFB:=qh (aI hf hD)
 clear hB hB1 hB2 hw0 hb0 hz0 hH hC hCl hHD hHl hd78 hRD hR hne hD
 go_enter Tryz.func76,Tryz.ntmps76
 go_upto_region 3 with fail
 rw [<- HW0.out.1,<- HW0.out.2.2.2]
 go_wp2_with fail
 refine HNW.out.mono ?_
 rintro e w1 ⟨q,rb,rfl,hR1,hb1⟩
 have HL1:=qh (rc_short i hR1 (by omega))
 have H1:=qh (aI hb1 (aI hR1.rd.1 hR1.qlt))
 clear hR1 hb1 HNW
 go_wp2_with fail
 refine HL1.out.mono ?_
 rintro e w2 ⟨rfl,hR2,hc2⟩
 have HL2:=qh (rc_long f hR2 (by have:=HFB.out.1; omega))
 have H2:=qh hc2
 clear hR2 hc2 HL1
 go_wp2_with fail
 refine HL2.out.mono ?_
 rintro e w3 ⟨rfl,hR3,hc3⟩
 have HL3:=qh (rc_short c hR3 (by omega))
 have H3:=qh (H2.out.two hc3)
 clear hR3 hc3 HL2 H2
 go_wp2_with fail
 refine HL3.out.mono ?_
 rintro e w4 ⟨rfl,hR4,hc4⟩
 have HL4:=qh (rc_short n hR4 (by omega))
 have H4:=qh (H3.out.two hc4)
 clear hR4 hc4 HL3 H3
 go_wp2_with fail
 refine HL4.out.mono ?_
 rintro e w5 ⟨rfl,hR5,hc5⟩
 have HL5:=qh (rc_raw P 32 hR5 (by rw [hP]; rfl))
 have H5:=qh (H4.out.two hc5)
 clear hR5 hc5 HL4 H4
 go_wp2_with fail
 refine HL5.out.mono ?_
 rintro e w6 ⟨⟨vp,rfl,hop⟩,hR6,hc6⟩
 have HL6:=qh (rc_raw R 32 hR6 (by rw [HX.out.1]; rfl))
 have H6:=qh (aI (H5.out.two hc6) hop)
 obtain ⟨pa,pc,rfl,_⟩:=hop.bsn (n:=32) hP
 clear hR6 hc6 HL5 hop
 go_wp2_with fail
 refine HL6.out.mono ?_
 rintro e w7 ⟨⟨vr,rfl,hor⟩,hR7,hc7⟩
 obtain ⟨ra,rc,rfl,_⟩:=hor.bsn (n:=32) HX.out.1
 obtain ⟨w8,hw8⟩:=qnm (w7.alloc (.cells #[.int .i64 (i : Int),.int .u64 (f : Int),.int .i64 (c : Int),.int .i64 (n : Int),.slice pa 32 pc,.slice ra 32 rc] THd))
 obtain ⟨M,hM⟩:=qnm w7.heap.size
 have H8 : Hid (hd6 w8 M i f c n pa ra pc rc /\ Own w8 w1.heap.size (.slice pa 32 pc) P /\ Own w8 w1.heap.size (.slice ra 32 rc) R /\ Below w0.heap.size w0 w8):=qh (by
  have hb8:=qba hw8
  obtain ⟨hc16,hop⟩:=H6.out
  have hc17:=hc16.two hc7
  have s5:=H5.out.size
  have s6:=hc16.size
  obtain ⟨hb1,hq0,hq1⟩:=H1.out
  refine ⟨by rw [hM,hw8]; exact heap_alloc_new w7 _,((rc_own hop (by omega) hc7).base s5).below hb8,(hor.base s6).below hb8,?_⟩
  exact (hb1.trans (hc17.below hb1.size (fun k _ e => by omega))).trans (hb8.mono (Nat.le_trans hb1.size hc17.size)))
 have HWM:=qh (aI hw8 hM)
 clear hor hR7 hc7 HL6 hw8 hM
 go_upto_region 11 with (first
  | (rw [<- HWM.out.1]; rw [<- HWM.out.2])
  | fail)
 obtain ⟨hb1,hb2⟩:=HB.out
 have hbw8 : Below w.heap.size w w8:=HW0.out.2.1.trans (H8.out.2.2.2.mono HW0.out.2.1.size)
 have hbw8d:=hbw8.drew
 have HSM:=qh (sum_any _ _ _ _ _ (hb1.below hbw8d))
 rw [<- HC.out.1] at HSM
 have HFR:=qh (four_any C w8.drew HC.out.2.1)
 have HE2:=qh (show ∀ W,Below w.heap.size w W -> Bs W a78 4 (cap - 78) D from fun W h => hb2.below h)
 have HBW:=qh hbw8
 clear hb1 hb2 hbw8 hbw8d
 refine heldB_start (fun i => [].contains i) (fun _ => True) (by kernel_rfl) ?_ (fun hHeld => ?_)
 ·trivial
 refine qfr 0 36 ?_
 simp only [qz0,qz1]
 refine qfr 1 37 ?_
 simp only [qz0,qz1]
 refine qfr 4 40 ?_
 simp only [qz0,qz1]
 refine qfr 5 41 ?_
 simp only [qz0,qz1]
 refine qone 2 fun K hK => ?_
 go_simp
 refine (HSM.out).mono ?_
 rintro e wx ⟨rfl,rfl⟩
 go_wp2_with fail
 refine hK.out _ _ (fun _ => hHeld) ?_
 clear hK K
 refine qone 3 fun K hK => ?_
 go_simp
 refine (HFR.out).mono ?_
 rintro e w10 ⟨vf,rfl,hof,hb10⟩
 obtain ⟨fa,fc,rfl,hBf⟩:=hof.bsn (n:=4) (be_length _ _)
 have HB10:=qh (show Below w8.heap.size w8 w10 from (Below.refl _ _).drew.trans hb10)
 have HEQ:=qh (beq_any fa a78 4 4 fc (cap - 78) _ _ w10 hBf (HE2.out w10 (HBW.out.trans (HB10.out.mono HBW.out.size))))
 rw [decide_eq_false HC.out.2.2] at HEQ
 clear hof hb10 hBf
 go_wp2_with fail
 refine hK.out _ _ (fun _ => hHeld) ?_
 clear hK K
 refine qone 6 fun K hK => ?_
 go_simp
 refine (HEQ.out).mono ?_
 rintro e wy ⟨rfl,rfl⟩
 go_wp2_with fail
 refine hK.out _ _ (fun _ => hHeld) ?_
 clear hK K
 refine qfr 7 43 ?_
 simp only [qz0,qz1]
 refine qdon ?_
 clear hHeld HSM HFR HE2 HEQ
 obtain ⟨hd8,hop8,hor8,hbw08⟩:=H8.out
 have hb010 : Below w0.heap.size w0 w10:=hbw08.trans (HB10.out.mono hbw08.size)
 have hz10:=(hb010.block H (ltH HW0.out.2.2.1)).trans HW0.out.2.2.1
 have z0 : w10.cell? ⟨H,0,none⟩ = some (.int .i64 0):=cells_at hz10 0
 have z1 : w10.cell? ⟨H,1,none⟩ = some (.int .u64 0):=cells_at hz10 1
 have z2 : w10.cell? ⟨H,2,none⟩ = some (.int .i64 0):=cells_at hz10 2
 have z3 : w10.cell? ⟨H,3,none⟩ = some (.int .i64 0):=cells_at hz10 3
 have z4 : w10.cell? ⟨H,4,none⟩ = some (.slice none 0 0):=cells_at hz10 4
 have z5 : w10.cell? ⟨H,5,none⟩ = some (.slice none 0 0):=cells_at hz10 5
 have f0:=frz_of hz10 0
 have f1:=frz_of hz10 1
 have f2:=frz_of hz10 2
 have f3:=frz_of hz10 3
 have f4:=frz_of hz10 4
 have f5:=frz_of hz10 5
 have hzl:=ltH hz10
 have HF:=qh (show Below w.heap.size w w10 from HW0.out.2.1.trans (hb010.mono HW0.out.2.1.size))
 clear hd8 hop8 hor8 hbw08 hb010 hz10 H8 HB10 HBW
 go_wp2_with fail
 refine bodyPost_ret (v:=.tuple #[noHd,.slice none 0 0,.int .i64 14]) (by simp [results,Tryz.results76,go_sem,noHd,z0,z1,z2,z3,z4,z5]) rfl ?_
 have hc6:=chg6 w10 H (.int .i64 0) (.int .u64 0) (.int .i64 0) (.int .i64 0) (.slice none 0 0) (.slice none 0 0)
 have hHw:=HW0.out.2.2.2
 exact ⟨rfl,HF.out.trans (hc6.below HF.out.size (fun k _ e => by omega))⟩
theorem seg0_crc : crcMore 0 (segHead 0 0 0 0 (List.replicate 32 0) (List.replicate 32 0)) = 1082872042:=by kernel_rfl
theorem seg0_row : List.replicate 1024 (0 : UInt8) = segHead 0 0 0 0 (List.replicate 32 0) (List.replicate 32 0) ++ (List.replicate 4 0 ++ List.replicate 942 0):=by kernel_rfl
theorem segread_none (a : Option Addr) (cap : Nat) (w : World) (hB : Bs w a 1024 cap (List.replicate 1024 0)) :
  Calls Tryz.prog 76 #[.slice a 1024 cap] w fun e w' => e = .returned (.tuple #[noHd,.slice none 0 0,.int .i64 14]) /\ Below w.heap.size w w':=by
 rw [seg0_row] at hB
 exact segread_sum 0 0 0 0 _ _ _ _ a cap w hB (by omega) (by omega) (by omega) (by omega) (by simp) (by simp) (by simp) (by rw [seg0_crc]; decide)
end
end Go.Proofs.YtabdcphioccgnaaGreatDoor
