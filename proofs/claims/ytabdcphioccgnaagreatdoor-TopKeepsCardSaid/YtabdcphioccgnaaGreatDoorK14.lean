/- Super; ReadSuper; SuperLaw; OpLaw; OpAsks; OpRight. -/
import Derived.Test.YtabdcphioccgnaaGreatDoorK09
set_option maxRecDepth 100000
set_option maxHeartbeats 8000000
namespace Go.Proofs.YtabdcphioccgnaaGreatDoor
section
open Go.RowKit
def supHead (n : Nat) (id : List UInt8) : List UInt8:=[87,79,82,77] ++ (be 1 2 ++ (be n 2 ++ id))
def supTail (c : Nat) : List UInt8:=be (c / 65536) 2 ++ (be c 2 ++ List.replicate 100 0)
def supBytes (n : Nat) (id : List UInt8) : List UInt8:=supHead n id ++ supTail (crcMore 0 (supHead n id))
theorem super_ok (n : Nat) (a : Option Addr) (cap : Nat) (id : List UInt8) (w : World) (h : Bs w a 16 cap id) (h1 : 64 <= n) (h2 : n <= 4096) :
  Calls Tryz.prog 29 #[.int .i64 (n : Int),.slice a 16 cap] w fun e w' => ∃ v,e = .returned (.tuple #[v,.int .i64 0]) /\ Own w' w.heap.size v (supBytes n id) /\ Below w.heap.size w w':=by
 have hil:=h.1
 go_enter Tryz.func29,Tryz.ntmps29
 go_wp2_with fail
 refine (of_ok n _ (by omega) (by omega)).mono ?_
 rintro e w1 ⟨rfl,hb1⟩
 have hE1:=(Ext.refl w).step hb1
 have hB1:=h.below hb1
 generalize hsg : seg (n : Int) = sg
 clear hsg
 go_wp2_with fail
 have hE2:=hE1.alloc (.cells #[.int .i64 (n : Int),.int .i64 ((n : Int) / 4),.int .i64 sg] 56)
 have hB2:=hB1.alloc (.cells #[.int .i64 (n : Int),.int .i64 ((n : Int) / 4),.int .i64 sg] 56)
 generalize w1.alloc (.cells #[.int .i64 (n : Int),.int .i64 ((n : Int) / 4),.int .i64 sg] 56) = w2 at *
 refine (wnew_any w2).mono ?_
 rintro e w3 ⟨rfl,hW3,hb3⟩
 obtain ⟨p,hp⟩:=qnm w2.heap.size
 rw [<- hp] at hW3 ⊢
 have HP:=qh hp
 have hI3 : WI w2 p p w3 []:=⟨by rw [hp]; exact (Ext.refl w2).step hb3,none,hW3⟩
 clear hW3 hb3 hE1 hB1 h hb1 hp
 have kc:=fun (w : World) (C : Array Value) (n c : Nat) => Lib.run_convert_bytes_const (P:=Tryz.prog) w 30 5 C n c Tryz.underlying30 Tryz.underlying5
 have hm:=Bs.newRow w3 #[.int .u8 87,.int .u8 79,.int .u8 82,.int .u8 77] TB (4,5) 4 4 [87,79,82,77] rfl (by omega) (by simp [maxLen]) rfl
 have hI3':=hI3.below ((Below.refl _ _).alloc (Nat.le_refl _) (.cells #[.int .u8 87,.int .u8 79,.int .u8 82,.int .u8 77] TB (4,5)))
 go_wp2_with fail
 refine (wraw_ok hI3' hm (by unfold big; simp)).mono ?_
 rintro e w4 ⟨rfl,hI4⟩
 clear hI3 hI3' hm
 go_wp2_with fail
 refine (wshort_ok 1 hI4 (by omega) (by simp; unfold big; decide)).mono ?_
 rintro e w5 ⟨rfl,hI5⟩
 clear hI4
 go_wp2_with fail
 refine (wshort_ok n hI5 (by omega) (by simp [be_length]; unfold big; decide)).mono ?_
 rintro e w6 ⟨rfl,hI6⟩
 clear hI5
 have hB6:=hI6.1.bs HP.out.symm hB2
 go_wp2_with fail
 refine (wraw_ok hI6 hB6 (by simp [be_length]; unfold big; decide)).mono ?_
 rintro e w7 ⟨rfl,hI7⟩
 have e1 : [] ++ [87,79,82,77] ++ be 1 2 ++ be n 2 ++ id = supHead n id:=by simp [supHead]
 rw [e1] at hI7
 have hSl : (supHead n id).length = 24:=by simp [supHead,be_length,hil]
 clear hI6 hB6 e1
 have HX:=qh (show supBytes n id = supHead n id ++ supTail (crcMore 0 (supHead n id)) from rfl)
 generalize supHead n id = X at *
 go_wp2_with fail
 refine (wdone_ok hI7 (by rw [hSl]; unfold big; decide)).mono ?_
 rintro e w8 ⟨a8,c8,rfl,_,hB8,hI8⟩
 clear hI7
 go_wp2_with fail
 rw [hSl] at hB8
 refine (sum_any _ _ _ _ _ hB8).mono ?_
 rintro e w9 ⟨rfl,rfl⟩
 have hcl:=crcMore_lt 0 X
 generalize crcMore 0 X = c at *
 clear hB8
 go_wp2_with fail
 have hS1:=wshort_ok (c / 65536) hI8 (by omega) (by rw [hSl]; unfold big; decide)
 rw [show ((c / 65536 : Nat) : Int) = (c : Int) / 65536 by omega] at hS1
 refine hS1.mono ?_
 rintro e w9 ⟨rfl,hI9⟩
 clear hS1 hI8
 go_wp2_with fail
 refine (wshort_ok c hI9 (by omega) (by rw [List.length_append,hSl,be_length]; unfold big; decide)).mono ?_
 rintro e w10 ⟨rfl,hI10⟩
 clear hI9
 have hl10 : (X ++ be (c / 65536) 2 ++ be c 2).length = 28:=by rw [List.length_append,List.length_append,hSl,be_length,be_length]
 have hI10' : WI w2 p p w10 (X ++ be (c / 65536) 2 ++ be c 2):=hI10
 have HY:=qh (show (X ++ be (c / 65536) 2 ++ be c 2) ++ List.replicate 100 0 = X ++ supTail c by simp [supTail])
 clear hI10
 generalize X ++ be (c / 65536) 2 ++ be c 2 = Y at *
 go_wp2_with fail
 refine (wdone_ok hI10' (by rw [hl10]; unfold big; decide)).mono ?_
 rintro e w11 ⟨a11,c11,rfl,_,_,hI11⟩
 clear hI10'
 have hmk : ∀ W,(Instr.makeSlice 30 (.int .i64 (100 : Int)) (.int .i64 (100 : Int))).run Tryz.prog W = .ok (.slice (some ⟨W.heap.size,0,none⟩) 100 100) (W.alloc (.cells (madeCells #[.int .u8 0] 100) TB)):=fun W => run_make_bytes 100 (by omega) W
 have hZ:=(Row.zero w11 100 (by simp [maxLen])).bs
 rw [List.length_replicate] at hZ
 have hI11':=hI11.below ((Below.refl _ _).alloc (Nat.le_refl _) (.cells (madeCells #[.int .u8 0] 100) TB))
 clear hI11
 go_wp2_with fail
 refine (wraw_ok hI11' hZ (by rw [hl10]; unfold big; decide)).mono ?_
 rintro e w12 ⟨rfl,hI12⟩
 clear hI11' hZ
 rw [HY.out,<- HX.out] at hI12
 have hl12 : (supBytes n id).length <= 128:=by rw [HX.out,List.length_append,hSl]; simp [supTail,be_length]
 obtain ⟨Z,hZe⟩:=qnm (supBytes n id)
 rw [<- hZe] at hI12 hl12
 have HZ:=qh hZe
 clear hZe
 go_wp2_with fail
 refine (wdone_ok hI12 (by unfold big; omega)).mono ?_
 rintro e w13 ⟨a13,c13,rfl,ho,hB13,hI13⟩
 go_wp2_with fail
 go_ret2
 have hEf : Ext w.heap.size w w13:=hE2.to (hI13.1.1.mono (by rw [HP.out]; exact hE2.2))
 exact ⟨.slice a13 Z.length c13,rfl,by rw [<- HZ.out]; exact ho.base (hE2.to (hI12.1.1.mono (by rw [HP.out]; exact hE2.2))).2,hEf.1⟩
theorem super_no (n : Int) (a : Option Addr) (len cap : Nat) (w : World) (h : n < 64 ∨ 4096 < n ∨ len ≠ 16) :
  Calls Tryz.prog 29 #[.int .i64 n,.slice a len cap] w fun e w' => e = .returned (.tuple #[.slice none 0 0,.int .i64 1]) /\ Below w.heap.size w w':=by
 by_cases hn : n < 64 ∨ 4096 < n
 ·go_enter Tryz.func29,Tryz.ntmps29
  go_wp2_with fail
  refine (of_bad n _ hn).mono ?_
  rintro e w1 ⟨rfl,hb1⟩
  go_wp2_with fail
  go_ret2
  exact ⟨rfl,(((Ext.refl w).step hb1).alloc _).1⟩
 ·have hl : ((len : Int) != 16) = true:=by rw [bne_iff_ne]; omega
  go_enter Tryz.func29,Tryz.ntmps29
  go_wp2_with fail
  refine (of_ok n _ (by omega) (by omega)).mono ?_
  rintro e w1 ⟨rfl,hb1⟩
  go_wp2_with fail
  go_ret2
  exact ⟨rfl,(((Ext.refl w).step hb1).alloc _).1⟩
def supN (xs : List UInt8) : Nat:=(rdShort (rdShort (rdRaw (xs,0) 4).2).2).1
def supId (xs : List UInt8) : List UInt8:=(rdRaw (rdShort (rdShort (rdRaw (xs,0) 4).2).2).2 16).1
def SupOk (xs : List UInt8) : Prop:=64 <= supN xs /\ supN xs <= 4096 /\ (supId xs).length = 16 /\ supBytes (supN xs) (supId xs) = xs
theorem rsup_any (a : Option Addr) (len cap : Nat) (xs : List UInt8) (w : World) (h : Bs w a len cap xs) (hl : len <= big) :
  Calls Tryz.prog 155 #[.slice a len cap] w fun e w' => ((SupOk xs /\ ∃ v,e = .returned (.tuple #[.int .i64 (supN xs : Int),v,.int .i64 0]) /\ Own w' w.heap.size v (supId xs)) ∨
   (¬ SupOk xs /\ e = .returned (.tuple #[.int .i64 0,.slice none 0 0,.int .i64 41]))) /\ Below w.heap.size w w':=by
 have hxl:=h.1
 have hb0 : xs.length <= big:=by omega
 go_enter Tryz.func155,Tryz.ntmps155
 go_wp2_with fail
 refine (rnew_any a len cap xs _ h hl).mono ?_
 rintro e w1 ⟨q,rb,rfl,hR,hb1⟩
 have hE1:=(Ext.refl w).step hb1
 have l1 : (rdRaw (xs,0) 4).2.1.length <= big:=Nat.le_trans (rdRaw_left (xs,0) 4) hb0
 have hC1:=qh (rraw_any w.heap.size q rb xs 0 4 w1 hR hb0)
 have HS : Hid (supN xs = (rdShort (rdShort (rdRaw (xs,0) 4).2).2).1 /\ supId xs = (rdRaw (rdShort (rdShort (rdRaw (xs,0) 4).2).2).2 16).1):=qh ⟨rfl,rfl⟩
 generalize (rdRaw (xs,0) 4).1 = y1 at *
 generalize (rdRaw (xs,0) 4).2 = s1 at *
 have l2 : (rdShort s1).2.1.length <= big:=Nat.le_trans (rdRaw_left s1 2) l1
 have hC2:=qh (fun B w h => rshort_any B q rb s1 w h l1)
 generalize (rdShort s1).1 = y2 at *
 generalize (rdShort s1).2 = s2 at *
 have l3 : (rdShort s2).2.1.length <= big:=Nat.le_trans (rdRaw_left s2 2) l2
 have hv3:=rdShort_lt s2
 have hC3:=qh (fun B w h => rshort_any B q rb s2 w h l2)
 generalize (rdShort s2).1 = n at *
 generalize (rdShort s2).2 = s3 at *
 have hC4:=qh (fun B w h => rraw_any B q rb s3.1 s3.2 16 w h l3)
 clear l1 l2 l3 hb0
 go_wp2_with fail
 refine hC1.out.mono ?_
 rintro e w2 ⟨v1,rfl,ho1,hP⟩
 obtain ⟨hE2,hR2⟩:=hE1.next hP
 clear hP hE1 hR ho1 hC1
 go_wp2_with fail
 refine (hC2.out _ _ hR2).mono ?_
 rintro e w3 ⟨rfl,hP⟩
 obtain ⟨hE3,hR3⟩:=hE2.next hP
 clear hP hE2 hR2 hC2
 go_wp2_with fail
 refine (hC3.out _ _ hR3).mono ?_
 rintro e w4 ⟨rfl,hP⟩
 obtain ⟨hE4,hR4⟩:=hE3.next hP
 clear hP hE3 hR3 hC3
 go_wp2_with fail
 refine (hC4.out _ _ hR4).mono ?_
 rintro e w5 ⟨vi,rfl,hoi,hP⟩
 obtain ⟨hE5,hR5⟩:=hE4.next hP
 have hz4:=hE4.2
 clear hP hE4 hR4 hC4
 obtain ⟨hSn,hSi⟩:=HS.out
 rw [show rdRaw (s3.1,s3.2) 16 = rdRaw s3 16 from rfl,<- hSi] at hoi
 have hOB:=hoi.base hz4
 obtain ⟨ai,ci,rfl,hBi⟩:=hoi.bs
 have hb5:=hE5.1
 have hx5:=h.below hb5
 by_cases hc : 64 <= n /\ n <= 4096 /\ (supId xs).length = 16
 ·obtain ⟨c1,c2,c3⟩:=hc
  have HOB:=qh hOB
  have HSI:=qh hSi
  rw [c3] at hBi
  have HSU:=qh (super_ok n ai ci (supId xs) w5 hBi c1 c2)
  obtain ⟨r,hr⟩:=qnm (decide (supBytes n (supId xs) = xs))
  have hok : SupOk xs ↔ r = true:=by
   rw [hr,decide_eq_true_iff]; unfold SupOk; rw [hSn]
   exact ⟨fun h => h.2.2.2,fun h => ⟨c1,c2,c3,h⟩⟩
  have HOK:=qh hok
  have HSN:=qh hSn
  clear hoi hR5 hOB hSi hSn hok
  go_wp2_with fail
  refine HSU.out.mono ?_
  rintro e w6 ⟨v6,rfl,ho6,hb6⟩
  obtain ⟨a6,c6,rfl,hB6⟩:=ho6.bs
  have hEq:=equal_any a6 a _ len c6 cap _ xs w6 hB6 (hx5.below hb6)
  rw [<- hr] at hEq
  have HEQ:=qh hEq
  clear hr hEq hB6 ho6
  go_wp2_with fail
  refine HEQ.out.mono ?_
  rintro e w7 ⟨rfl,hb7⟩
  have hEz:=((hE5.step hb6).step hb7).1
  cases r
  ·go_wp2_with fail
   refine bodyPost_ret (v:=.tuple #[.int .i64 0,.slice none 0 0,.int .i64 41]) (by simp [results,Tryz.results155,go_sem]) rfl ⟨.inr ⟨by simpa using HOK.out,rfl⟩,hEz⟩
  ·go_wp2_with fail
   have hO7:=(HOB.out.below hb6).below hb7
   rw [c3] at hO7
   refine bodyPost_ret (v:=.tuple #[.int .i64 (n : Int),.slice ai 16 ci,.int .i64 0]) (by simp [results,Tryz.results155,go_sem]) rfl ⟨.inl ⟨by simpa using HOK.out,_,by rw [HSN.out],hO7⟩,hEz⟩
 ·have hno : ¬ SupOk xs:=fun h => hc (by unfold SupOk at h; rw [hSn] at h; exact ⟨h.1,h.2.1,h.2.2.1⟩)
  have HNO:=qh hno
  have HSU:=qh (super_no (n : Int) ai (supId xs).length ci w5 (by omega))
  clear hc hno hOB hoi hSi hSn hBi hR5
  go_wp2_with fail
  refine HSU.out.mono ?_
  rintro e w6 ⟨rfl,hb6⟩
  go_wp2_with fail
  refine bodyPost_ret (v:=.tuple #[.int .i64 0,.slice none 0 0,.int .i64 41]) (by simp [results,Tryz.results155,go_sem]) rfl ⟨.inr ⟨HNO.out,rfl⟩,(hE5.step hb6).1⟩
theorem supHead_length (n : Nat) (id : List UInt8) (h : id.length = 16) : (supHead n id).length = 24:=by simp [supHead,be_length,h]
theorem supTail_length (c : Nat) : (supTail c).length = 104:=by simp [supTail,be_length]
theorem supBytes_length (n : Nat) (id : List UInt8) (h : id.length = 16) : (supBytes n id).length = 128:=by
 rw [supBytes,List.length_append,supHead_length n id h,supTail_length]
theorem supRead (n : Nat) (id : List UInt8) (T : List UInt8) (h : id.length = 16) (hn : n < 65536) : supN (supHead n id ++ T) = n /\ supId (supHead n id ++ T) = id:=by
 have e0 : supHead n id ++ T = [87,79,82,77] ++ (be 1 2 ++ (be n 2 ++ (id ++ T))):=by simp [supHead]
 unfold supN supId
 rw [e0,rdRaw_app _ _ 4 rfl]
 simp only
 rw [rdShort_be]
 simp only
 rw [rdShort_be]
 simp only
 rw [rdRaw_app _ _ 16 (by rw [h]; rfl)]
 exact ⟨Nat.mod_eq_of_lt hn,rfl⟩
theorem supOk_bytes (n : Nat) (id : List UInt8) (h : id.length = 16) (h1 : 64 <= n) (h2 : n <= 4096) : SupOk (supBytes n id) /\ supN (supBytes n id) = n /\ supId (supBytes n id) = id:=by
 obtain ⟨e1,e2⟩:=supRead n id (supTail (crcMore 0 (supHead n id))) h (by omega)
 have e1' : supN (supBytes n id) = n:=e1
 have e2' : supId (supBytes n id) = id:=e2
 exact ⟨by unfold SupOk; rw [e1',e2']; exact ⟨h1,h2,h,rfl⟩,e1',e2'⟩
structure Ask where
 path : Bool:=false
 «to» : Bool:=false
 fd : Bool:=false
 part : Bool:=false
 til : Bool:=false
 snap : Bool:=false
 data : Bool:=false
def asksOf : Int -> Option Ask
 | 1 => some { path:=true }
 | 2 => some { path:=true }
 | 3 => some { path:=true,snap:=true }
 | 4 => some { fd:=true,part:=true }
 | 5 => some { fd:=true,data:=true }
 | 6 => some { fd:=true,til:=true }
 | 7 => some { path:=true,«to»:=true }
 | 8 => some { path:=true }
 | 9 => some { path:=true }
 | 10 => some { path:=true,«to»:=true }
 | 11 => some { path:=true,snap:=true }
 | 12 => some { path:=true,snap:=true }
 | 13 => some { path:=true,til:=true }
 | 14 => some {}
 | 15 => some { snap:=true }
 | 16 => some { til:=true }
 | 17 => some {}
 | _ => none
structure Ov where
 kind : Int
 path : List UInt8
 «to» : List UInt8
 fd : Int
 at_ : Int
 n : Int
 til : Nat
 snap : Int
 dat : List UInt8
def shortI (n : Int) : Bool:=decide (0 <= n /\ n <= 65535)
def rightN (a : Ask) (p t d : Nat) (fd at_ n snap : Int) : Nat :=
 if (a.path = true /\ 200 < p) ∨ (a.to = true /\ 200 < t) ∨ (a.data = true /\ 600 < d) then 3
 else if (a.fd = true /\ shortI fd = false) ∨ (a.part = true /\ (shortI at_ = false ∨ shortI n = false)) ∨ (a.snap = true /\ shortI snap = false) then 1
 else 0
def Ov.right (o : Ov) (a : Ask) : Nat:=rightN a o.path.length o.to.length o.dat.length o.fd o.at_ o.n o.snap
def Ov.tail (o : Ov) (a : Ask) : List UInt8 :=
 (if a.path then lenBytes o.path else []) ++ ((if a.to then lenBytes o.to else []) ++ ((if a.fd then be o.fd.toNat 2 else []) ++
  ((if a.part then be o.at_.toNat 2 else []) ++ ((if a.part then be o.n.toNat 2 else []) ++ ((if a.til then be o.til 8 else []) ++ ((if a.snap then be o.snap.toNat 2 else []) ++ (if a.data then lenBytes o.dat else [])))))))
def Ov.bytes (o : Ov) (a : Ask) : List UInt8:=be o.kind.toNat 1 ++ o.tail a
def opEnc (o : Ov) : List UInt8 × Nat :=
 match asksOf o.kind with
 | none => ([],30)
 | some a => if o.right a = 0 then (o.bytes a,0) else ([],o.right a)
theorem asksOf_range {k : Int} {a : Ask} (h : asksOf k = some a) : 1 <= k /\ k <= 17:=by
 unfold asksOf at h
 split at h <;> first | (constructor <;> decide) | cases h
theorem kinds {k : Int} (h : ¬ (k < 1 ∨ 17 < k)) : k = 1 ∨ k = 2 ∨ k = 3 ∨ k = 4 ∨ k = 5 ∨ k = 6 ∨ k = 7 ∨ k = 8 ∨ k = 9 ∨ k = 10 ∨ k = 11 ∨ k = 12 ∨ k = 13 ∨ k = 14 ∨ k = 15 ∨ k = 16 ∨ k = 17:=by omega
theorem shortI_nat {n : Int} (h : shortI n = true) : ∃ m : Nat,n = (m : Int) /\ m < 65536:=by
 unfold shortI at h
 have:=of_decide_eq_true h
 exact ⟨n.toNat,by omega,by omega⟩
theorem asks_sets {k : Int} {a : Ask} (h : asksOf k = some a) : a = { path:=true } ∨ a = { path:=true,snap:=true } ∨ a = { fd:=true,part:=true } ∨ a = { fd:=true,data:=true } ∨ a = { fd:=true,til:=true } ∨
  a = { path:=true,«to»:=true } ∨ a = { path:=true,til:=true } ∨ a = {} ∨ a = { snap:=true } ∨ a = { til:=true }:=by
 unfold asksOf at h
 split at h <;> first | (cases h; simp; done) | cases h
def Ask.cells (a : Ask) : Array Value:=#[.bool a.path,.bool a.to,.bool a.fd,.bool a.part,.bool a.til,.bool a.snap,.bool a.data]
theorem asks_some (k : Int) (a : Ask) (h : asksOf k = some a) (w : World) : Calls Tryz.prog 61 #[.int .i64 k] w fun e w' => e = .returned (.tuple #[.agg a.cells,.bool true]) /\ Below w.heap.size w w':=by
 have hr:=asksOf_range h
 have hk:=kinds (k:=k) (by omega)
 clear hr
 rcases hk with rfl | rfl | rfl | rfl | rfl | rfl | rfl | rfl | rfl | rfl | rfl | rfl | rfl | rfl | rfl | rfl | rfl
 all_goals
  simp only [asksOf,Option.some.injEq] at h
  subst h
  go_enter Tryz.func61,Tryz.ntmps61
  go_wp2_with fail
  refine bodyPost_ret (v:=.tuple #[.agg (Ask.cells _),.bool true]) (by simp [results,Tryz.results61,go_sem,Ask.cells]) rfl ⟨rfl,?_⟩
  exact ((Ext.refl w).alloc _).1
theorem asks_none (k : Int) (h : asksOf k = none) (w : World) : Calls Tryz.prog 61 #[.int .i64 k] w fun e w' => e = .returned (.tuple #[.agg ({} : Ask).cells,.bool false]) /\ Below w.heap.size w w':=by
 have hr : k < 1 ∨ 17 < k:=by
  rcases (show (k < 1 ∨ 17 < k) ∨ (1 <= k /\ k <= 17) by omega) with h1 | h1
  ·exact h1
  ·have hk:=kinds (k:=k) (by omega)
   rcases hk with rfl | rfl | rfl | rfl | rfl | rfl | rfl | rfl | rfl | rfl | rfl | rfl | rfl | rfl | rfl | rfl | rfl <;> cases h
 clear h
 have h1 : (k == 1) = false:=by simp; omega
 have h2 : (k == 2) = false:=by simp; omega
 have h3 : (k == 3) = false:=by simp; omega
 have h4 : (k == 4) = false:=by simp; omega
 have h5 : (k == 5) = false:=by simp; omega
 have h6 : (k == 6) = false:=by simp; omega
 have h7 : (k == 7) = false:=by simp; omega
 have h8 : (k == 8) = false:=by simp; omega
 have h9 : (k == 9) = false:=by simp; omega
 have h10 : (k == 10) = false:=by simp; omega
 have h11 : (k == 11) = false:=by simp; omega
 have h12 : (k == 12) = false:=by simp; omega
 have h13 : (k == 13) = false:=by simp; omega
 have h14 : (k == 14) = false:=by simp; omega
 have h15 : (k == 15) = false:=by simp; omega
 have h16 : (k == 16) = false:=by simp; omega
 have h17 : (k == 17) = false:=by simp; omega
 clear hr
 go_enter Tryz.func61,Tryz.ntmps61
 go_wp2_with fail
 refine bodyPost_ret (v:=.tuple #[.agg (Ask.cells {}),.bool false]) (by simp [results,Tryz.results61,go_sem,Ask.cells]) rfl ⟨rfl,?_⟩
 exact ((Ext.refl w).alloc _).1
def ovCells (k : Int) (ps ts : ByteArray) (fd at_ n : Int) (til : Nat) (sn : Int) (da : Option Addr) (dl dc : Nat) : Array Value :=
 #[.int .i64 k,.string ps,.string ts,.int .i64 fd,.int .i64 at_,.int .i64 n,.int .u64 (til : Int),.int .i64 sn,.slice da dl dc]
theorem right_any (k : Int) (ps ts : ByteArray) (fd at_ n : Int) (til : Nat) (sn : Int) (da : Option Addr) (dl dc : Nat) (a : Ask) (k' : Int) (ha : asksOf k' = some a) (w : World) :
  Calls Tryz.prog 62 #[.agg (ovCells k ps ts fd at_ n til sn da dl dc),.agg a.cells] w fun e w' => e = .returned (.int .i64 (rightN a ps.size ts.size dl fd at_ n sn : Nat)) /\ Below w.heap.size w w':=by
 have hs:=asks_sets ha
 clear ha
 rcases hs with rfl | rfl | rfl | rfl | rfl | rfl | rfl | rfl | rfl | rfl
 all_goals
  unfold ovCells Ask.cells
  go_enter Tryz.func62,Tryz.ntmps62
  go_wp2
  all_goals go_ret
  all_goals refine ⟨ret_int ?_,(((Ext.refl w).alloc _).alloc _).1⟩
  all_goals simp only [rightN,shortI,Bool.false_eq_true,true_and,false_and,or_false,false_or,decide_eq_false_iff_not]
  all_goals (first | rfl | (repeat' split) <;> first | omega | rfl | (exfalso; omega) | (simp_all; done))
end
end Go.Proofs.YtabdcphioccgnaaGreatDoor
