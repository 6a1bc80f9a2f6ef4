/- OpEnc; Flush; Place. -/
import Derived.Laws.CopyOwn
import Derived.Test.YtabdcphioccgnaaGreatDoorK02
import Derived.Test.YtabdcphioccgnaaGreatDoorK10
import Derived.Test.YtabdcphioccgnaaGreatDoorK14
set_option maxRecDepth 100000
set_option maxHeartbeats 8000000
namespace Go.Proofs.YtabdcphioccgnaaGreatDoor
section
open Go.RowKit
structure OvAt (w : World) (b : Nat) (k : Int) (ps ts : ByteArray) (fd at_ n : Int) (til : Nat) (sn : Int) (da : Option Addr) (dl dc : Nat) : Prop where
 c0 : w.cell? ⟨b,0,none⟩ = some (.int .i64 k)
 c1 : w.cell? ⟨b,1,none⟩ = some (.string ps)
 c2 : w.cell? ⟨b,2,none⟩ = some (.string ts)
 c3 : w.cell? ⟨b,3,none⟩ = some (.int .i64 fd)
 c4 : w.cell? ⟨b,4,none⟩ = some (.int .i64 at_)
 c5 : w.cell? ⟨b,5,none⟩ = some (.int .i64 n)
 c6 : w.cell? ⟨b,6,none⟩ = some (.int .u64 (til : Int))
 c7 : w.cell? ⟨b,7,none⟩ = some (.int .i64 sn)
 c8 : w.cell? ⟨b,8,none⟩ = some (.slice da dl dc)
theorem OvAt.of {w : World} {b : Nat} {k : Int} {ps ts : ByteArray} {fd at_ n : Int} {til : Nat} {sn : Int} {da : Option Addr} {dl dc : Nat} {t : TypeId} {fr : Nat × Nat}
  (h : w.heap[b]? = some (.cells (ovCells k ps ts fd at_ n til sn da dl dc) t fr)) : OvAt w b k ps ts fd at_ n til sn da dl dc :=
 ⟨cells_at h 0,cells_at h 1,cells_at h 2,cells_at h 3,cells_at h 4,cells_at h 5,cells_at h 6,cells_at h 7,cells_at h 8⟩
structure AskAt (w : World) (b : Nat) (p t f q u s d : Bool) : Prop where
 c0 : w.cell? ⟨b,0,none⟩ = some (.bool p)
 c1 : w.cell? ⟨b,1,none⟩ = some (.bool t)
 c2 : w.cell? ⟨b,2,none⟩ = some (.bool f)
 c3 : w.cell? ⟨b,3,none⟩ = some (.bool q)
 c4 : w.cell? ⟨b,4,none⟩ = some (.bool u)
 c5 : w.cell? ⟨b,5,none⟩ = some (.bool s)
 c6 : w.cell? ⟨b,6,none⟩ = some (.bool d)
theorem AskAt.of {w : World} {b : Nat} {p t f q u s d : Bool} {ty : TypeId} {fr : Nat × Nat}
  (h : w.heap[b]? = some (.cells #[.bool p,.bool t,.bool f,.bool q,.bool u,.bool s,.bool d] ty fr)) : AskAt w b p t f q u s d :=
 ⟨cells_at h 0,cells_at h 1,cells_at h 2,cells_at h 3,cells_at h 4,cells_at h 5,cells_at h 6⟩
theorem OvAt.below {w w' : World} {b : Nat} {k : Int} {ps ts : ByteArray} {fd at_ n : Int} {til : Nat} {sn : Int} {da : Option Addr} {dl dc : Nat}
  (h : OvAt w b k ps ts fd at_ n til sn da dl dc) {B : Nat} (hb : Below B w w') (hlt : b < B) : OvAt w' b k ps ts fd at_ n til sn da dl dc :=
 have e (i : Nat) : w'.cell? ⟨b,i,none⟩ = w.cell? ⟨b,i,none⟩:=hb.cell (p:=⟨b,i,none⟩) hlt
 ⟨(e 0).trans h.c0,(e 1).trans h.c1,(e 2).trans h.c2,(e 3).trans h.c3,(e 4).trans h.c4,(e 5).trans h.c5,(e 6).trans h.c6,(e 7).trans h.c7,(e 8).trans h.c8⟩
theorem AskAt.below {w w' : World} {b : Nat} {p t f q u s d : Bool} (h : AskAt w b p t f q u s d) {B : Nat} (hb : Below B w w') (hlt : b < B) : AskAt w' b p t f q u s d :=
 have e (i : Nat) : w'.cell? ⟨b,i,none⟩ = w.cell? ⟨b,i,none⟩:=hb.cell (p:=⟨b,i,none⟩) hlt
 ⟨(e 0).trans h.c0,(e 1).trans h.c1,(e 2).trans h.c2,(e 3).trans h.c3,(e 4).trans h.c4,(e 5).trans h.c5,(e 6).trans h.c6⟩
theorem opFacts {p t f q u s d : Bool} {pl tl dl : Nat} {fd at_ n sn : Int} (h : rightN ⟨p,t,f,q,u,s,d⟩ pl tl dl fd at_ n sn = 0) :
  (p = true -> pl <= 200) /\ (t = true -> tl <= 200) /\ (f = true -> ∃ m : Nat,fd = m /\ m < 65536) /\ (q = true -> (∃ m : Nat,at_ = m /\ m < 65536) /\ ∃ m : Nat,n = m /\ m < 65536) /\ (s = true -> ∃ m : Nat,sn = m /\ m < 65536) /\ (d = true -> dl <= 600):=by
 unfold rightN at h
 split at h
 ·cases h
 next h1 =>
  split at h
  ·cases h
  next h2 =>
   simp only [not_or] at h1 h2
   refine ⟨fun e => Nat.not_lt.1 fun h' => h1.1 ⟨e,h'⟩,fun e => Nat.not_lt.1 fun h' => h1.2.1 ⟨e,h'⟩,fun e => shortI_nat (by have h9:=fun h' => h2.1 ⟨e,h'⟩; simpa using h9),
    fun e => ⟨shortI_nat (by have h9:=fun h' => h2.2.1 ⟨e,.inl h'⟩; simpa using h9),shortI_nat (by have h9:=fun h' => h2.2.1 ⟨e,.inr h'⟩; simpa using h9)⟩,
    fun e => shortI_nat (by have h9:=fun h' => h2.2.2 ⟨e,h'⟩; simpa using h9),fun e => Nat.not_lt.1 fun h' => h1.2.2 ⟨e,h'⟩⟩
theorem openc_ok (k : Nat) (ps ts : List UInt8) (fd at_ n : Int) (til : Nat) (sn : Int) (da : Option Addr) (dl dc : Nat) (ds : List UInt8) (a : Ask) (ha : asksOf k = some a) (w : World) (hB : Bs w da dl dc ds)
  (hr : rightN a ps.length ts.length ds.length fd at_ n sn = 0) :
  Calls Tryz.prog 18 #[.agg (ovCells k (strOf ps) (strOf ts) fd at_ n til sn da dl dc)] w fun e w' => ∃ v,e = .returned (.tuple #[v,.int .i64 0]) /\ Own w' w.heap.size v ((⟨k,ps,ts,fd,at_,n,til,sn,ds⟩ : Ov).bytes a) /\ Below w.heap.size w w':=by
 have kc:=run_bytes ps
 have kd:=run_bytes ts
 have HA:=qh (fun w => asks_some k a ha w)
 obtain ⟨H,hH⟩:=qnm w.heap.size
 have HH:=qh hH
 obtain ⟨p,t,f,q,u,s,d⟩:=a
 unfold ovCells Ask.cells at *
 simp only at HA
 go_enter Tryz.func18,Tryz.ntmps18
 go_upto_region 1 with fail
 go_wp2_with fail
 refine (HA.out _).mono ?_
 rintro e w1 ⟨rfl,hb1⟩
 have hHb : (w.alloc (.cells (ovCells k (strOf ps) (strOf ts) fd at_ n til sn da dl dc) 39)).heap[w.heap.size]? = some (.cells (ovCells k (strOf ps) (strOf ts) fd at_ n til sn da dl dc) 39 (0,0)):=heap_alloc_new w _
 have hHb1:=(hb1.block w.heap.size (size_alloc _ _)).trans hHb
 have hlt1 : w.heap.size < w1.heap.size:=Nat.lt_of_lt_of_le (size_alloc _ _) hb1.size
 have hE2:=(((Ext.refl w).alloc (.cells (ovCells k (strOf ps) (strOf ts) fd at_ n til sn da dl dc) 39)).step hb1).alloc (.cells #[.bool p,.bool t,.bool f,.bool q,.bool u,.bool s,.bool d] 126)
 have hHb2:=(Below.heap_alloc w1 (.cells #[.bool p,.bool t,.bool f,.bool q,.bool u,.bool s,.bool d] 126) _ hlt1).trans hHb1
 have hA2 : (w1.alloc (.cells #[.bool p,.bool t,.bool f,.bool q,.bool u,.bool s,.bool d] 126)).heap[w1.heap.size]? = _:=heap_alloc_new w1 (.cells #[.bool p,.bool t,.bool f,.bool q,.bool u,.bool s,.bool d] 126)
 have hO:=OvAt.of hHb2
 have hK:=AskAt.of hA2
 have hlt2 : w1.heap.size < (w1.alloc (.cells #[.bool p,.bool t,.bool f,.bool q,.bool u,.bool s,.bool d] 126)).heap.size:=size_alloc _ _
 have hltH : w.heap.size < (w1.alloc (.cells #[.bool p,.bool t,.bool f,.bool q,.bool u,.bool s,.bool d] 126)).heap.size:=Nat.lt_trans hlt1 hlt2
 have hB2:=(((hB.alloc (.cells (ovCells k (strOf ps) (strOf ts) fd at_ n til sn da dl dc) 39))).below hb1).alloc (.cells #[.bool p,.bool t,.bool f,.bool q,.bool u,.bool s,.bool d] 126)
 clear hHb hHb1 hHb2 hA2 hb1 hB HA
 rw [<- hH] at hO hE2 hltH ⊢
 clear hH hlt1
 go_upto_region 2 with fail
 generalize w1.alloc (.cells #[.bool p,.bool t,.bool f,.bool q,.bool u,.bool s,.bool d] 126) = w2 at *
 generalize w1.heap.size = A at *
 have HR:=qh (right_any k (strOf ps) (strOf ts) fd at_ n til sn da dl dc ⟨p,t,f,q,u,s,d⟩ k ha w2)
 have hsz : ∀ xs : List UInt8,(strOf xs).size = xs.length:=fun xs => rfl
 have hdl : ds.length = dl:=hB2.1
 rw [hsz,hsz,<- hdl,hr] at HR
 unfold ovCells Ask.cells at HR
 simp only at HR
 rw [hdl,show ((0 : Nat) : Int) = 0 from rfl] at HR
 clear hdl hsz
 have HO:=qh hO
 have HK:=qh hK
 obtain ⟨c0,c1,c2,c3,c4,c5,c6,c7,c8⟩:=hO
 obtain ⟨g0,g1,g2,g3,g4,g5,g6⟩:=hK
 go_wp2_with fail
 refine HR.out.mono ?_
 rintro e w3 ⟨rfl,hb3⟩
 have hE3:=hE2.step hb3
 have hltA:=Nat.lt_of_lt_of_le hlt2 hb3.size
 have hltH:=Nat.lt_of_lt_of_le hltH hb3.size
 have hO : OvAt w3 H k (strOf ps) (strOf ts) fd at_ n til sn da dl dc:=HO.out.below hb3 (by assumption)
 have hK : AskAt w3 A p t f q u s d:=HK.out.below hb3 hlt2
 have hB3:=hB2.below hb3
 have hF:=opFacts hr
 have hk17 : k <= 17:=by have:=asksOf_range ha; omega
 have HF:=qh hF
 clear c0 c1 c2 c3 c4 c5 c6 c7 c8 g0 g1 g2 g3 g4 g5 g6 HR HO HK hb3 hE2 hB2 hlt2 hr hF ha
 go_upto_region 7 with fail
 go_wp2_with fail
 refine (wnew_any _).mono ?_
 rintro e w4 ⟨rfl,hW1,hb1⟩
 have hI : WI w3 w3.heap.size w3.heap.size w4 []:=⟨(Ext.refl w3).step hb1,none,hW1⟩
 obtain ⟨P,hP⟩:=qnm w3.heap.size
 rw [<- hP] at hI hltA hltH ⊢
 have HP:=qh hP
 clear hW1 hb1 hP
 have HO:=qh hO
 have HK:=qh hK
 clear hO hK
 have d0:=hI.cell hltH HO.out.c0
 go_wp2_with fail
 refine (wbyte_ok k hI (by omega) (by unfold big; decide)).mono ?_
 rintro e w5 ⟨rfl,hI5⟩
 rw [List.nil_append] at hI5
 clear d0 hI
 have dA:=hI5.cell hltA HK.out.c0
 have d1:=hI5.cell hltH HO.out.c1
 go_upto_if 28 with fail
 go_cut [] (fun wx => ∃ M,M = be k 1 ++ (if p = true then lenBytes ps else []) /\ M.length <= 611 /\ WI w3 P P wx M)
 case first =>
  cases p
  ·go_wp2_with fail
   go_meet
   exact ⟨_,rfl,by simp [be_length],by simpa using hI5⟩
  ·go_wp2_with fail
   refine (wbytes_new hI5 (convW_below _ ps) (convW_bs _ ps (by have:=HF.out.1 (by trivial); unfold maxLen; omega)) (by (try simp [be_length]); unfold big; omega)).mono ?_
   rintro e w9 ⟨rfl,hI9⟩
   go_wp2_with fail
   go_meet
   have hlx:=HF.out.1 (by trivial)
   exact ⟨_,rfl,by simp [be_length,lenBytes]; omega,hI9⟩
 case rest =>
 clear dA d1 hI5
 obtain ⟨L1,hL1,hM1,hI6⟩:=hcut
 have HL1:=qh hL1
 clear hL1
 have dA:=hI6.cell hltA HK.out.c1
 have d1:=hI6.cell hltH HO.out.c2
 go_upto_if 35 with fail
 go_cut [] (fun wx => ∃ M,M = L1 ++ (if t = true then lenBytes ts else []) /\ M.length <= 1221 /\ WI w3 P P wx M)
 case first =>
  cases t
  ·go_wp2_with fail
   go_meet
   exact ⟨_,rfl,by simp; omega,by simpa using hI6⟩
  ·go_wp2_with fail
   refine (wbytes_new hI6 (convW_below _ ts) (convW_bs _ ts (by have:=HF.out.2.1 (by trivial); unfold maxLen; omega)) (by (try simp [be_length]); unfold big; omega)).mono ?_
   rintro e w9 ⟨rfl,hI9⟩
   go_wp2_with fail
   go_meet
   have hlx:=HF.out.2.1 (by trivial)
   exact ⟨_,rfl,by simp [be_length,lenBytes]; omega,hI9⟩
 case rest =>
 clear dA d1 hI6
 obtain ⟨L2,hL2,hM2,hI7⟩:=hcut
 have HL2:=qh hL2
 clear hL2
 have dA:=hI7.cell hltA HK.out.c2
 have d1:=hI7.cell hltH HO.out.c3
 go_upto_if 42 with fail
 go_cut [] (fun wx => ∃ M,M = L2 ++ (if f = true then be fd.toNat 2 else []) /\ M.length <= 1831 /\ WI w3 P P wx M)
 case first =>
  cases f
  ·go_wp2_with fail
   go_meet
   exact ⟨_,rfl,by simp; omega,by simpa using hI7⟩
  ·go_wp2_with fail
   obtain ⟨m,hm,hmn⟩:=HF.out.2.2.1 (by trivial)
   subst hm
   refine (wshort_ok m hI7 (by omega) (by (try simp [be_length]); unfold big; omega)).mono ?_
   rintro e w9 ⟨rfl,hI9⟩
   go_wp2_with fail
   go_meet
   exact ⟨_,rfl,by simp [be_length]; omega,hI9⟩
 case rest =>
 clear dA d1 hI7
 obtain ⟨L3,hL3,hM3,hI8⟩:=hcut
 have HL3:=qh hL3
 clear hL3
 have dA:=hI8.cell hltA HK.out.c3
 have d1:=hI8.cell hltH HO.out.c4
 have d2:=hI8.cell hltH HO.out.c5
 go_upto_if 48 with fail
 go_cut [] (fun wx => ∃ M,M = L3 ++ (if q = true then (be at_.toNat 2 ++ be n.toNat 2) else []) /\ M.length <= 2441 /\ WI w3 P P wx M)
 case first =>
  cases q
  ·go_wp2_with fail
   go_meet
   exact ⟨_,rfl,by simp; omega,by simpa using hI8⟩
  ·go_wp2_with fail
   obtain ⟨⟨m,hm,hmn⟩,m2,hm2,hmn2⟩:=HF.out.2.2.2.1 (by trivial)
   subst hm hm2
   refine (wshort_ok m hI8 (by omega) (by (try simp [be_length]); unfold big; omega)).mono ?_
   rintro e w8 ⟨rfl,hI8⟩
   have d2:=hI8.cell hltH HO.out.c5
   go_wp2_with fail
   refine (wshort_ok m2 hI8 (by omega) (by (try simp [be_length]); unfold big; omega)).mono ?_
   rintro e w9 ⟨rfl,hI9⟩
   go_wp2_with fail
   go_meet
   rw [List.append_assoc] at hI9
   exact ⟨_,rfl,by simp [be_length]; omega,hI9⟩
 case rest =>
 clear dA d1 d2 hI8
 obtain ⟨L4,hL4,hM4,hI9⟩:=hcut
 have HL4:=qh hL4
 clear hL4
 have dA:=hI9.cell hltA HK.out.c4
 have d1:=hI9.cell hltH HO.out.c6
 go_upto_if 58 with fail
 go_cut [] (fun wx => ∃ M,M = L4 ++ (if u = true then be til 8 else []) /\ M.length <= 3051 /\ WI w3 P P wx M)
 case first =>
  cases u
  ·go_wp2_with fail
   go_meet
   exact ⟨_,rfl,by simp; omega,by simpa using hI9⟩
  ·go_wp2_with fail
   refine (wlong_ok til hI9 (by (try simp [be_length]); unfold big; omega)).mono ?_
   rintro e w9 ⟨rfl,hI9⟩
   go_wp2_with fail
   go_meet
   exact ⟨_,rfl,by simp [be_length]; omega,hI9⟩
 case rest =>
 clear dA d1 hI9
 obtain ⟨L5,hL5,hM5,hI10⟩:=hcut
 have HL5:=qh hL5
 clear hL5
 have dA:=hI10.cell hltA HK.out.c5
 have d1:=hI10.cell hltH HO.out.c7
 go_upto_if 64 with fail
 go_cut [] (fun wx => ∃ M,M = L5 ++ (if s = true then be sn.toNat 2 else []) /\ M.length <= 3661 /\ WI w3 P P wx M)
 case first =>
  cases s
  ·go_wp2_with fail
   go_meet
   exact ⟨_,rfl,by simp; omega,by simpa using hI10⟩
  ·go_wp2_with fail
   obtain ⟨m,hm,hmn⟩:=HF.out.2.2.2.2.1 (by trivial)
   subst hm
   refine (wshort_ok m hI10 (by omega) (by (try simp [be_length]); unfold big; omega)).mono ?_
   rintro e w9 ⟨rfl,hI9⟩
   go_wp2_with fail
   go_meet
   exact ⟨_,rfl,by simp [be_length]; omega,hI9⟩
 case rest =>
 clear dA d1 hI10
 obtain ⟨L6,hL6,hM6,hI11⟩:=hcut
 have HL6:=qh hL6
 clear hL6
 have dA:=hI11.cell hltA HK.out.c6
 have d1:=hI11.cell hltH HO.out.c8
 go_upto_if 70 with fail
 go_cut [] (fun wx => ∃ M,M = L6 ++ (if d = true then lenBytes ds else []) /\ M.length <= 4271 /\ WI w3 P P wx M)
 case first =>
  cases d
  ·go_wp2_with fail
   go_meet
   exact ⟨_,rfl,by simp; omega,by simpa using hI11⟩
  ·go_wp2_with fail
   refine (wbytes_ok hI11 HP.out.symm hB3 (by (try simp [be_length]); unfold big; omega)).mono ?_
   rintro e w9 ⟨rfl,hI9⟩
   go_wp2_with fail
   go_meet
   have hlx:=HF.out.2.2.2.2.2 (by trivial)
   exact ⟨_,rfl,by simp [be_length,lenBytes]; omega,hI9⟩
 case rest =>
 clear dA d1 hI11
 obtain ⟨L7,hL7,hM7,hI12⟩:=hcut
 have HL7:=qh hL7
 clear hL7
 obtain ⟨hE12,g,hW12⟩:=hI12
 go_wp2_with fail
 refine (wdone_any P P g _ _ hW12 (by unfold big; omega)).mono ?_
 rintro e w13 ⟨v,rfl,ho,hb13⟩
 go_wp2_with fail
 go_ret2
 have hE13:=(hE3.to (hE12.1.mono (Nat.le_of_lt hltH))).step hb13
 have hLL : (⟨k,ps,ts,fd,at_,n,til,sn,ds⟩ : Ov).bytes ⟨p,t,f,q,u,s,d⟩ = L7:=by
  rw [HL7.out,HL6.out,HL5.out,HL4.out,HL3.out,HL2.out,HL1.out]
  unfold Ov.bytes Ov.tail
  simp only [Int.toNat_natCast]
  cases q <;> simp [List.append_assoc]
 rw [<- HH.out]
 exact ⟨v,rfl,by rw [hLL]; exact ho.base (hE3.to (hE12.1.mono (Nat.le_of_lt hltH))).2,hE13.1⟩
theorem openc_kind (k : Int) (ps ts : ByteArray) (fd at_ n : Int) (til : Nat) (sn : Int) (da : Option Addr) (dl dc : Nat) (ha : asksOf k = none) (w : World) :
  Calls Tryz.prog 18 #[.agg (ovCells k ps ts fd at_ n til sn da dl dc)] w fun e w' => e = .returned (.tuple #[.slice none 0 0,.int .i64 30]) /\ Below w.heap.size w w':=by
 have HA:=qh (fun w => asks_none k ha w)
 unfold ovCells Ask.cells at *
 simp only at HA
 clear ha
 go_enter Tryz.func18,Tryz.ntmps18
 go_upto_region 1 with fail
 go_wp2_with fail
 refine (HA.out _).mono ?_
 rintro e w1 ⟨rfl,hb1⟩
 go_wp2_with fail
 go_ret2
 exact ⟨rfl,((((Ext.refl w).alloc _).step hb1).alloc _).1⟩
theorem openc_wrong (k : Int) (ps ts : ByteArray) (fd at_ n : Int) (til : Nat) (sn : Int) (da : Option Addr) (dl dc : Nat) (a : Ask) (ha : asksOf k = some a) (w : World) (r : Nat) (hr : rightN a ps.size ts.size dl fd at_ n sn = r) (h0 : r ≠ 0) :
  Calls Tryz.prog 18 #[.agg (ovCells k ps ts fd at_ n til sn da dl dc)] w fun e w' => e = .returned (.tuple #[.slice none 0 0,.int .i64 (r : Int)]) /\ Below w.heap.size w w':=by
 have HA:=qh (fun w => asks_some k a ha w)
 obtain ⟨H,hH⟩:=qnm w.heap.size
 have HH:=qh hH
 obtain ⟨p,t,f,q,u,s,d⟩:=a
 have h1 : ((r : Int) == 0) = false:=by simp; omega
 have h2 : ((r : Int) != 0) = true:=by rw [bne,h1]; rfl
 clear h0 h1
 unfold ovCells Ask.cells at *
 simp only at HA
 go_enter Tryz.func18,Tryz.ntmps18
 go_upto_region 1 with fail
 go_wp2_with fail
 refine (HA.out _).mono ?_
 rintro e w1 ⟨rfl,hb1⟩
 have hHb : (w.alloc (.cells (ovCells k ps ts fd at_ n til sn da dl dc) 39)).heap[w.heap.size]? = some (.cells (ovCells k ps ts fd at_ n til sn da dl dc) 39 (0,0)):=heap_alloc_new w _
 have hHb1:=(hb1.block w.heap.size (size_alloc _ _)).trans hHb
 have hlt1 : w.heap.size < w1.heap.size:=Nat.lt_of_lt_of_le (size_alloc _ _) hb1.size
 have hE2:=(((Ext.refl w).alloc (.cells (ovCells k ps ts fd at_ n til sn da dl dc) 39)).step hb1).alloc (.cells #[.bool p,.bool t,.bool f,.bool q,.bool u,.bool s,.bool d] 126)
 have hHb2:=(Below.heap_alloc w1 (.cells #[.bool p,.bool t,.bool f,.bool q,.bool u,.bool s,.bool d] 126) _ hlt1).trans hHb1
 have hA2 : (w1.alloc (.cells #[.bool p,.bool t,.bool f,.bool q,.bool u,.bool s,.bool d] 126)).heap[w1.heap.size]? = _:=heap_alloc_new w1 (.cells #[.bool p,.bool t,.bool f,.bool q,.bool u,.bool s,.bool d] 126)
 have hO:=OvAt.of hHb2
 have hK:=AskAt.of hA2
 have hlt2 : w1.heap.size < (w1.alloc (.cells #[.bool p,.bool t,.bool f,.bool q,.bool u,.bool s,.bool d] 126)).heap.size:=size_alloc _ _
 have hltH : w.heap.size < (w1.alloc (.cells #[.bool p,.bool t,.bool f,.bool q,.bool u,.bool s,.bool d] 126)).heap.size:=Nat.lt_trans hlt1 hlt2
 clear hHb hHb1 hHb2 hA2 hb1 HA
 rw [<- hH] at hO hE2 hltH ⊢
 clear hH hlt1
 go_upto_region 2 with fail
 generalize w1.alloc (.cells #[.bool p,.bool t,.bool f,.bool q,.bool u,.bool s,.bool d] 126) = w2 at *
 generalize w1.heap.size = A at *
 have HR:=qh (right_any k ps ts fd at_ n til sn da dl dc ⟨p,t,f,q,u,s,d⟩ k ha w2)
 rw [hr] at HR
 unfold ovCells Ask.cells at HR
 simp only at HR
 clear hr ha
 obtain ⟨c0,c1,c2,c3,c4,c5,c6,c7,c8⟩:=hO
 obtain ⟨g0,g1,g2,g3,g4,g5,g6⟩:=hK
 go_wp2_with fail
 refine HR.out.mono ?_
 rintro e w3 ⟨rfl,hb3⟩
 have hE3:=hE2.step hb3
 clear c0 c1 c2 c3 c4 c5 c6 c7 c8 g0 g1 g2 g3 g4 g5 g6 HR
 go_wp2_with fail
 go_ret2
 rw [<- HH.out]
 exact ⟨rfl,hE3.1⟩
theorem openc_any (k : Int) (ps ts : List UInt8) (fd at_ n : Int) (til : Nat) (sn : Int) (da : Option Addr) (dl dc : Nat) (ds : List UInt8) (w : World) (hB : Bs w da dl dc ds) :
  Calls Tryz.prog 18 #[.agg (ovCells k (strOf ps) (strOf ts) fd at_ n til sn da dl dc)] w fun e w' => ∃ v,e = .returned (.tuple #[v,.int .i64 ((opEnc ⟨k,ps,ts,fd,at_,n,til,sn,ds⟩).2 : Nat)]) /\
   Own w' w.heap.size v (opEnc ⟨k,ps,ts,fd,at_,n,til,sn,ds⟩).1 /\ Below w.heap.size w w':=by
 unfold opEnc
 simp only
 cases ha : asksOf k with
 | none =>
  refine (openc_kind k (strOf ps) (strOf ts) fd at_ n til sn da dl dc ha w).mono ?_
  rintro e w' ⟨rfl,hb⟩
  exact ⟨_,rfl,Own.nil _ _,hb⟩
 | some a =>
  have hdl:=hB.1
  have e1 : (⟨k,ps,ts,fd,at_,n,til,sn,ds⟩ : Ov).right a = rightN a ps.length ts.length ds.length fd at_ n sn:=rfl
  simp only
  rw [e1]
  by_cases hr : rightN a ps.length ts.length ds.length fd at_ n sn = 0
  ·rw [if_pos hr]
   obtain ⟨m,rfl⟩ : ∃ m : Nat,k = (m : Int):=⟨k.toNat,by have:=asksOf_range ha; omega⟩
   exact openc_ok m ps ts fd at_ n til sn da dl dc ds a ha w hB hr
  ·rw [if_neg hr]
   refine (openc_wrong k (strOf ps) (strOf ts) fd at_ n til sn da dl dc a ha w _ (by rw [<- hdl]; rfl) hr).mono ?_
   rintro e w' ⟨rfl,hb⟩
   exact ⟨_,rfl,Own.nil _ _,hb⟩
end
section
open Go.RowKit Go.ChangeMaps Go.MapKept Go.Maps
theorem run_copy_into {w : World} (g off m dCap cap : Nat) (S : List UInt8) (sp : Option Addr) (sCap : Nat) (bs : List UInt8)
  (hR : Row w g cap S) (hB : Bs w sp m sCap bs) (hpos : 0 < m) (hfit : off + m <= S.length) :
  ∃ w',(∀ ty,(Builtin.copy_ #[30,30] ty #[.slice (some ⟨g,off,none⟩) m dCap,.slice sp m sCap]).run Tryz.prog w = .ok (.int .i64 (m : Int)) w') /\ Row w' g cap (splice S off bs) /\ Chg (fun k => k = g) w w':=by
 have hbl:=hB.1
 obtain ⟨ad,rfl,hnews⟩ : ∃ ad,sp = some ad /\ ∀ j u,(bs.map bv)[j]? = some u -> w.cell? (ad.add j) = some u:=by
  rcases hB.news with ⟨_,h1,_⟩ | h1
  ·omega
  ·exact h1
 obtain ⟨cur,hcur,hsz,hle,hcap,htk⟩:=hR
 have hml : (bs.map bv).length = m:=by rw [List.length_map,hbl]
 have hsz' : cur.toList.length = cur.size:=Array.length_toList
 have hcs : S.length <= cur.toList.length:=by omega
 have m1 : min off cur.toList.length = off:=by omega
 have m2 : min off (min S.length cur.toList.length) = off:=by omega
 have hR' : Row (w.setRow g (cur.toList.take off ++ ((bs.map bv) ++ cur.toList.drop (off + (bs.map bv).length))).toArray) g cap (splice S off bs):=by
  refine ⟨_,setRow_heap w g cur _ TB (0,0) hcur,?_,by rw [length_splice _ _ _ (by omega)]; exact hle,hcap,?_⟩
  ·simp; omega
  ·rw [length_splice _ _ _ (by omega)]
   unfold splice
   simp only [List.map_append,List.map_take,List.map_drop,<- htk,List.length_map,hbl]
   refine List.ext_getElem? fun i => ?_
   simp only [List.getElem?_take,List.getElem?_append,List.getElem?_drop,List.length_take,List.length_map,hbl,List.getElem?_map,m1,m2]
   repeat' split
   all_goals first | rfl | omega | (congr 1; omega) | skip
 refine ⟨_,fun ty => ?_,hR',⟨rfl,rfl,rfl,by simp [World.setRow],fun k _ hk => setRow_other w g k _ hk⟩⟩
 have hrun:=run_copy_row (P:=Tryz.prog) w 30 30 ty 5 g off m dCap ad m sCap cur TB (bs.map bv) Tryz.underlying30 (by kernel_rfl) hcur (by rw [hml]; exact (Nat.min_self m).symm) hnews (by rw [hml]; omega) (fun v hv => by obtain ⟨y,_,rfl⟩:=List.mem_map.1 hv; rfl)
 rw [hrun,hml]
 simp only [List.append_assoc]
 rfl
theorem MapAt.clear {κ : Type} [DecidableEq κ] {S : Spell κ} {P : Program} {w : World} {b : Nat} {k t e : TypeId} {L : List (κ × Value)} (h : MapAt S P k w b L) (ht : P.underlying t = some (.map k e)) (ty : TypeId) :
  ∃ w',(Builtin.clear_ #[t] ty #[.map (some b)]).run P w = .ok (.tuple #[]) w' /\ MapAt S P k w' b [] /\ w.mapTurned w' b:=by
 obtain ⟨es,clock,hb,F,hs,hD⟩:=h
 refine ⟨setBlock w b (.map #[] clock),?_,⟨#[],clock,by simp [setBlock,(Array.getElem?_eq_some_iff.1 hb).1],⟨by simp,stamped_empty _,by simp⟩,Nat.le_refl _,rfl⟩,⟨es,clock,#[],clock,hb,rfl⟩⟩
 simp [Builtin.clear_,run_underlying ht,MapKept.run_getObj_map hb,MapKept.run_setObj_map _ hb,Result.andThen,setBlock]
theorem entry_of {L : List (Nat × Value)} {x : Int} {c : Value} {kl : Lit} {y : DataW Value × List MemPlace} (hk : keyOf Tryz.prog TI64 (.int .i64 x) = some kl) (hR : RH c = some y) (hat : ∀ zd,(mapK numS L).atKey kl zd = y.1) :
  ∃ i : Nat,x = i /\ kl = numS.lit i /\ getK i L = some c:=by
 obtain ⟨x',ex,rfl,_⟩:=Maps.keyOf_int_inv Tryz.underlying3 hk
 injection ex with _ ex
 subst ex
 simp only [RH,Option.some.injEq] at hR
 subst hR
 have h1:=hat (.held (.bool true))
 have h2:=hat (.held (.bool false))
 unfold mapK at h1 h2
 simp only [DataW.atKey] at h1 h2
 cases hf : (L.map fun p => (numS.lit p.1,DataW.held p.2)).find? (fun p => p.1.sameKey (Lit.int .i64 x)) with
 | none =>
  rw [hf] at h1 h2
  exact absurd (h1.trans h2.symm) (by simp)
 | some q =>
  obtain ⟨p,hp,rfl⟩:=List.mem_map.1 (List.mem_of_find?_eq_some hf)
  have hsame:=List.find?_some hf
  have hx : x = (p.1 : Int):=by
   have : (Lit.int .i64 (p.1 : Int)).sameKey (.int .i64 x) = true:=hsame
   simp [Lit.sameKey] at this
   exact this.symm
  subst hx
  refine ⟨p.1,rfl,rfl,?_⟩
  have h3:=mapK_at numS p.1 (.held (.bool true)) L
  have h4:=mapK_at numS p.1 (.held (.bool false)) L
  have h5:=(hat (.held (.bool true))).symm.trans h3
  have h6:=(hat (.held (.bool false))).symm.trans h4
  clear h3 h4 hat h1 h2 hf
  generalize getK p.1 L = g at h5 h6 ⊢
  cases g with
  | none => exact absurd (h5.symm.trans h6) (by simp)
  | some v => simp only [DataW.held.injEq] at h5; rw [h5]
def secOf (S : List UInt8) (i : Nat) : List UInt8:=(S.drop (128 * i)).take 128
theorem sect_none (S : List UInt8) (M : Nat -> Option (List UInt8)) (i : Nat) (h : M i = none) : sect S M i = secOf S i:=by unfold sect; rw [h]; rfl
theorem sect_some (S : List UInt8) (M : Nat -> Option (List UInt8)) (i : Nat) (bs : List UInt8) (h : M i = some bs) : sect S M i = bs:=by unfold sect; rw [h]; rfl
theorem secOf_splice (S : List UInt8) (n i j : Nat) (bs : List UInt8) (hS : S.length = 128 * n) (hi : i < n) (hj : j < n) (hb : bs.length = 128) : secOf (splice S (128 * i) bs) j = if j = i then bs else secOf S j:=by
 unfold secOf splice
 refine List.ext_getElem? fun q => ?_
 by_cases hq : q < 128
 ·by_cases h : j = i
  ·subst h
   simp only [List.getElem?_take,List.getElem?_drop,List.getElem?_append,List.length_take]
   simp only [if_pos hq]
   rw [if_neg (by omega),if_pos (by omega)]
   congr 1
   omega
  ·simp only [if_neg h,List.getElem?_take,List.getElem?_drop,List.getElem?_append,List.length_take,if_pos hq]
   by_cases hl : j < i
   ·rw [if_pos (by omega),if_pos (by omega)]
   ·rw [if_neg (by omega),if_neg (by omega)]
    congr 1
    omega
 ·rw [List.getElem?_take,if_neg hq]
  by_cases h : j = i
  ·rw [if_pos h]
   exact (List.getElem?_eq_none (by omega)).symm
  ·rw [if_neg h,List.getElem?_take,if_neg hq]
theorem Chg.toGrown {g : Nat} {w w' : World} (h : Chg (fun k => k = g) w w') : w.grownBy w' (some g):=⟨h.os,h.tape,h.output,h.size,fun k hk hne => h.block k hk (fun e => hne (by rw [e]))⟩
theorem Dk.row {w w' : World} {d sb mb n cap : Nat} {S S' : List UInt8} {M : Nat -> Option (List UInt8)} (h : Dk w d sb mb n S M) (hc : Chg (fun k => k = sb) w w') (hR0 : Row w sb cap S) (hR : Row w' sb cap S') (hl : S'.length = 128 * n) : Dk w' d sb mb n S' M:=by
 have hlt:=h.lt
 obtain ⟨hne,hS,hn,⟨cap',wr,h4,h5⟩,L,hL,hL0,hL1⟩:=h
 have hcp : cap' = cap:=by
  obtain ⟨c1,e1,e2,_⟩:=h5
  obtain ⟨c2,e3,e4,_⟩:=hR0
  rw [e1] at e3
  injection e3 with e3
  injection e3 with e3
  rw [<- e2,<- e4,e3]
 rw [hcp] at h4
 refine ⟨hne,hl,hn,⟨cap,wr,(hc.block d hlt.1 hne.1).trans h4,hR⟩,L,hL.same numS (hc.block mb hlt.2.2 (fun e => hne.2.2 e.symm)),hL0,fun i v hi => ?_⟩
 obtain ⟨h1,a,c,bs,e,hB,hM,ha⟩:=hL1 i v hi
 exact ⟨h1,a,c,bs,e,hc.bs hB (fun ad had => (ha ad had).2.1),hM,ha⟩
theorem wpList_clear_map {w w' : World} {ops : Array Oper} {rest : List Oper} {o : Oper} {a : Act} {Q : Exit -> Act -> World -> Prop} (hgd : o.guard = none) (m : Operand) (t : TypeId)
  (ho : o.op = .call { callee:=.builtin .clear,args:=#[m],argTypes:=#[t] }) (mv : Value) (hm : a.eval m = mv) (hr : ∀ ty,(Builtin.clear_ #[t] ty #[mv]).run Tryz.prog w = .ok (.tuple #[]) w')
  (h : wpList Tryz.prog ops Q rest (a.put o.dst (.tuple #[])) w') : wpList Tryz.prog ops Q (o :: rest) a w:=by
 refine wpList_plain hgd fun K hK => ?_
 unfold Oper.wp
 simp [execOp,ho,resolve,invoke,builtin,hm,hr,Result.andThen]
 exact hK _ _ h
theorem flush_any {w : World} {d sb mb n : Nat} {S : List UInt8} {M : Nat -> Option (List UInt8)} (h : Dk w d sb mb n S M) :
  Calls Tryz.prog 37 #[.pointer (some ⟨d,0,none⟩)] w fun e w' => e = .returned (.tuple #[]) /\ (∃ S',Dk w' d sb mb n S' (fun _ => none) /\ ∀ i,i < n -> secOf S' i = sect S M i) /\ Chg (fun k => k = sb ∨ k = mb) w w':=by
 have HD:=qh h
 have hlt:=h.lt
 have hdl:=hlt.1
 obtain ⟨hne,hS,hn,⟨cap,wrt,h4,h5⟩,L,hL,hL0,hL1⟩:=h
 have HH:=qh (aI h4 (aI h5 (aI hL0 (aI hL1 hL))))
 have c1:=cells_at h4 1
 clear h4 h5 hL0 hL1
 go_enter Tryz.func37,Tryz.ntmps37
 go_wp2_with (first
  | (at_range; refine wpList_range_own _ rfl _ 76 rfl TI64 _ dkeyed Tryz.underlying76 RH mb L.length _ rfl hL ?_; intro w0 hrg0 hg0 hs0)
  | go_in)
 go_frame
 go_loopw [2] (fun _ wx => ∃ (left : Lit -> Bool) (cnt : Nat) (Sr : List UInt8),wx.ranges Tryz.prog TI64 RH mb w.heap.size L.length (mapK numS L) left cnt /\ Row wx sb cap Sr /\ Sr.length = 128 * n /\
   (∀ i,i < n -> secOf Sr i = if left (numS.lit i) = true then secOf S i else sect S M i) /\ Chg (fun k => k = sb) w wx /\ w.heap.size < wx.heap.size)
  (fun _ wx => wx.rangeLeft mb w.heap.size)
 case atStart =>
  obtain ⟨h4,h5,hL0,hL1,_⟩:=HH.out
  refine ⟨_,_,S,hrg0,h5.grown hg0 (by simp),hS,fun i hi => ?_,(Chg.refl _ w).grown hg0 (by simp),by omega⟩
  rw [mapK_has]
  cases hg : getK i L with
  | none => rw [sect_none S M i (hL0 i hg)]; simp
  | some v => simp
 case round =>
  obtain ⟨left,cnt,Sr,hrg,hRr,hSr,hsec,hC,hrl⟩:=hrel
  go_wp2_with (first
   | (at_next; refine wpList_next_ranges _ rfl _ rfl TI64 dkeyed RH (Value.int .i64) (fun v => v) (fun key kl hk => by obtain ⟨x,rfl,_⟩:=Maps.keyOf_int_inv Tryz.underlying3 hk; exact ⟨x,rfl⟩) (fun v _ _ => ⟨v,rfl⟩) mb w.heap.size L.length _ _ _ rfl hrg ?_ ?_)
   | go_in)
  ·-- nothing is left
   intro _ hl0
   obtain ⟨w2,hcl,hL2,ht2⟩:=MapAt.clear (S:=numS) hrg.owns Tryz.underlying76 0
   have hcl' : ∀ ty,(Builtin.clear_ #[76] ty #[.map (some mb)]).run Tryz.prog wr = .ok (.tuple #[]) w2:=fun ty => hcl
   have c1r:=(hC.cell hdl hne.1).trans c1
   have hC2 : Chg (fun k => k = sb ∨ k = mb) w w2:=(hC.mono (fun _ _ h => .inl h)).trans (turned_chg ht2) (fun _ _ h => .inr h)
   have HF : Hid ((∃ S',Dk w2 d sb mb n S' (fun _ => none) /\ ∀ i,i < n -> secOf S' i = sect S M i) /\ Chg (fun k => k = sb ∨ k = mb) w w2):=by
    obtain ⟨h4,h5,_⟩:=HH.out
    refine qh ⟨⟨Sr,⟨hne,hSr,hn,⟨cap,wrt,(hC2.block d hdl (fun e => e.elim hne.1 hne.2.1)).trans h4,(turned_chg ht2).row hRr hne.2.2⟩,[],hL2,fun _ _ => rfl,fun i v hi => by simp [getK] at hi⟩,fun i hi => ?_⟩,hC2⟩
    rw [hsec i hi,if_neg (by simp [hl0])]
   clear hcl hL2 ht2 hC2 hrg hRr hSr hsec hC hrl hL c1 hrg0 hg0 HH HD
   go_wp2_with (first
    | (at_builtin; refine wpList_clear_map rfl _ _ rfl _ rfl hcl' ?_)
    | go_in)
   go_end0
   exact ⟨rfl,HF.out⟩
  ·intro x c kl y ps w1 cnt1 hkey hlk hRc hat hrg1 hlt1 hg1 hs1 hen
   obtain ⟨i,rfl,rfl,hgi⟩:=entry_of (y:=(y,ps)) hkey hRc hat
   obtain ⟨h4,h5,hL0,hL1,hLL⟩:=HH.out
   obtain ⟨hin,a,c',bs,rfl,hB,hM,ha⟩:=hL1 i c hgi
   have hC1:=hC.grown hg1 (fun k hk e => by injection e with e; omega)
   have hR1:=hRr.grown hg1 (by intro e; injection e with e; omega)
   have hB1:=hC1.bs hB (fun ad had => (ha ad had).2.1)
   have HA:=qh (at_any (HD.out.row hC1 h5 hR1 hSr) i hin)
   have hX:=qh (aI hrg (aI hrg1 (aI hC1 (aI hsec (aI hSr (aI hM (aI hR1 (aI hrl hs1))))))))
   have hft:=qh (show 128 * i + 128 <= Sr.length by omega)
   clear h4 h5 hL0 hL1 hLL hrg hrg1 hRr hC hC1 hsec hM hrg0 hg0 hL hat hlk hgi ha hg1 hB c1
   go_wp2_with fail
   refine HA.out.mono ?_
   rintro e w2 ⟨⟨c2,rfl,_⟩,rfl⟩
   obtain ⟨w3,hcp,hR3,hC3⟩:=run_copy_into sb (128 * i) 128 c2 cap Sr _ _ bs hR1 hB1 (by omega) hft.out
   go_wp2_with fail
   go_roundw
   case rel =>
    obtain ⟨_,hrg1,hC1,hsec,hSr,hM,_,hrl,hs1⟩:=hX.out
    have hbl:=hB1.1
    refine ⟨_,cnt1,_,hrg1.kept hC3.toGrown (by intro e; injection e with e; exact hne.2.2 e.symm) (by intro e; injection e with e; omega),hR3,by rw [length_splice _ _ _ (by omega)]; exact hSr,fun j hj => ?_,hC1.trans hC3 (fun _ _ h => h),by have:=hC3.size; omega⟩
    rw [secOf_splice Sr n i j bs hSr hin hj hbl]
    by_cases hji : j = i
    ·subst hji
     rw [if_pos rfl,sect_some S M j bs hM,if_neg (by simp [same_dec])]
    ·rw [if_neg hji,hsec j hj]
     simp only [same_dec,decide_eq_false hji,Bool.not_false,Bool.and_true]
   case measure =>
    obtain ⟨hrg,hrg1,_,_,_,_,_,hrl,hs1⟩:=hX.out
    have hrg3:=hrg1.kept hC3.toGrown (by intro e; injection e with e; exact hne.2.2 e.symm) (by intro e; injection e with e; omega)
    rw [hrg3.left_eq,hrg.left_eq]
    omega
end
section
open Go.RowKit
def catS (S : List UInt8) (M : Nat -> Option (List UInt8)) (first k : Nat) : List UInt8:=((List.range k).map fun j => sect S M (first + j)).flatten
theorem catS_succ (S : List UInt8) (M : Nat -> Option (List UInt8)) (first k : Nat) : catS S M first (k + 1) = catS S M first k ++ sect S M (first + k):=by
 unfold catS
 rw [List.range_succ,List.map_append,List.flatten_append]
 simp
theorem Dk.sect_len {w : World} {d sb mb n : Nat} {S : List UInt8} {M : Nat -> Option (List UInt8)} (h : Dk w d sb mb n S M) (i : Nat) (hi : i < n) : (sect S M i).length = 128:=by
 obtain ⟨_,hS,hn,_,L,hL,hL0,hL1⟩:=h
 cases hg : getK i L with
 | none =>
  rw [sect_none S M i (hL0 i hg)]
  unfold secOf
  simp
  omega
 | some v =>
  obtain ⟨_,a,c,bs,_,hB,hM,_⟩:=hL1 i v hg
  rw [sect_some S M i bs hM]
  exact hB.1
theorem Dk.catS_len {w : World} {d sb mb n : Nat} {S : List UInt8} {M : Nat -> Option (List UInt8)} (h : Dk w d sb mb n S M) (first k : Nat) (hk : first + k <= n) : (catS S M first k).length = 128 * k:=by
 induction k with
 | zero => rfl
 | succ k ih => rw [catS_succ,List.length_append,ih (by omega),h.sect_len _ (by omega)]; omega
theorem Own.ge {w : World} {B : Nat} {v : Value} {xs : List UInt8} (h : Own w B v xs) (k : Nat) (hk : v.ownBlock = some k) : B <= k:=by
 rcases h.parts with ⟨rfl,_⟩ | ⟨g,cap,rfl,h1,_⟩
 ·simp [Value.ownBlock] at hk
 ·have : g = k:=by simpa [Value.ownBlock] using hk
  omega
theorem place_any {w : World} {d sb mb n : Nat} {S : List UInt8} {M : Nat -> Option (List UInt8)} (h : Dk w d sb mb n S M) (s p g : Int) (hp : isPlan s p g) (i first : Nat) (hi : (i : Int) < g) (hfi : (first : Int) = 1 + 2 * p + i * 8) (hf : first + 8 <= n) :
  Calls Tryz.prog 90 #[.pointer (some ⟨d,0,none⟩),.agg #[.int .i64 s,.int .i64 p,.int .i64 g],.int .i64 (i : Int)] w fun e w' => ∃ v,e = .returned v /\ Own w' w.heap.size v (catS S M first 8) /\ Below w.heap.size w w':=by
 have hn4 : n <= 4096:=h.2.2.1
 have HS:=qh (fun w => segment_ok s p g (i : Int) w hp (by omega) hi)
 rw [<- hfi] at HS
 have HF:=qh (aI hf hn4)
 have HD:=qh h
 clear hi hfi hf hn4 h
 go_enter Tryz.func90,Tryz.ntmps90
 go_wp2_with fail
 refine (HS.out _).mono ?_
 rintro e w1 ⟨rfl,hb1⟩
 have hE1:=qh (((Ext.refl w).alloc (.cells #[.int .i64 s,.int .i64 p,.int .i64 g] 56)).step hb1)
 clear hb1
 go_wp2_with fail
 go_loopw [9,10] (fun out k wr => ∃ j : Nat,j <= 8 /\ k = .int .i64 (j : Int) /\ Own wr w.heap.size out (catS S M first j) /\ Ext w.heap.size w wr) (fun _ k _ => 8 - (intOf k).toNat)
 case atStart => exact ⟨0,by omega,rfl,Own.nil _ _,hE1.out⟩
 case round =>
  obtain ⟨j,hj,rfl,ho,hE⟩:=hrel
  clear hE1
  by_cases hlt : j < 8
  ·have hE':=qh hE
   obtain ⟨hf,hn4⟩:=HF.out
   have HR:=qh (dread_any (HD.out.below hE.1) (first + j) (by omega))
   have hsl:=HD.out.sect_len (first + j) (by omega)
   have hcl:=HD.out.catS_len first j (by omega)
   have e1 : IntKind.i64.wrap ((first : Int) + (j : Int)) = ((first + j : Nat) : Int):=by rw [IntWalk.i64_in _ (by omega)]; omega
   have e2 : IntKind.i64.wrap ((j : Int) + 1) = ((j + 1 : Nat) : Int):=by rw [IntWalk.i64_in _ (by omega)]; omega
   obtain ⟨q,hq⟩:=qnm (first + j)
   obtain ⟨j2,hj2⟩:=qnm (j + 1)
   rw [<- hq] at e1 HR hsl
   rw [<- hj2] at e2
   have hji : (j : Int) < 8:=by omega
   have HQ:=qh (aI hq hj2)
   clear hf hn4 hE hj hq hj2 hlt
   go_wp2_with fail
   refine HR.out.mono ?_
   rintro e w2 ⟨v,rfl,ho2,hb2⟩
   obtain ⟨a2,c2,rfl,hB2⟩:=ho2.bsn (n:=128) hsl
   have hO2:=ho.below hb2
   have hE2:=qh (hE'.out.step hb2)
   clear ho2 hb2 ho
   go_wp2_with (at_builtin; refine wpList_append_bytes rfl _ _ rfl w.heap.size _ _ rfl hO2 a2 128 c2 _ rfl hB2 (by omega) hE2.out.2 ?_; intro v3 w3 ho3 hg3 _)
   go_roundw
   case rel =>
    obtain ⟨hq,hj2⟩:=HQ.out
    refine ⟨j2,by omega,rfl,?_,Ext.grown hE2.out hg3 (fun k hk => hO2.ge k hk)⟩
    rw [hj2,catS_succ,<- hq]
    exact ho3
   case measure =>
    obtain ⟨hq,hj2⟩:=HQ.out
    show 8 - (j2 : Int).toNat < 8 - (j : Int).toNat
    omega
  ·obtain rfl : j = 8:=by omega
   clear hlt
   go_wp2_with fail
   go_ret
   exact ⟨_,rfl,ho,hE.1⟩
end
end Go.Proofs.YtabdcphioccgnaaGreatDoor
