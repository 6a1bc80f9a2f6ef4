/- Node; TreeAt; TreeSet. -/
import Derived.Test.YtabdcphioccgnaaGreatDoorK08
set_option maxRecDepth 100000
set_option maxHeartbeats 8000000
namespace Go.Proofs.YtabdcphioccgnaaGreatDoor
section
open Go.RowKit
structure Nd where
 id : Int
 kind : Int
 links : Int
 size : Int
 til : Nat
 closed : Bool
def Nd.cells (n : Nd) : Array Value:=#[.int .i64 n.id,.int .i64 n.kind,.int .i64 n.links,.int .i64 n.size,.int .u64 (n.til : Int),.bool n.closed]
def Nd.Ok (n : Nd) : Prop:=0 <= n.id /\ n.id <= 65535 /\ 0 <= n.links /\ n.links <= 65535 /\
 ((n.kind = 1 /\ 0 <= n.size /\ n.size <= 4096 /\ n.til <= 1099511627776) ∨ (n.kind = 2 /\ n.size = 0 /\ n.til = 0 /\ n.closed = true))
instance (n : Nd) : Decidable n.Ok:=by unfold Nd.Ok; infer_instance
theorem nright_any (n : Nd) (w : World) : Calls Tryz.prog 223 #[.agg n.cells] w fun e w' => e = .returned (.bool (decide n.Ok)) /\ Below w.heap.size w w':=by
 obtain ⟨id,kind,links,size,til,closed⟩:=n
 generalize hok : decide (Nd.Ok ⟨id,kind,links,size,til,closed⟩) = ok
 have HO:=qh hok
 clear hok
 unfold Nd.cells
 simp only
 go_enter Tryz.func223,Tryz.ntmps223
 go_wp2
 all_goals go_ret
 all_goals refine ⟨ret_bool ?_,((Ext.refl w).alloc _).1⟩
 all_goals rw [<- HO.out,Bool.eq_iff_iff]
 all_goals rw [decide_eq_true_iff (p:=Nd.Ok _)]
 all_goals simp only [Nd.Ok,decide_eq_true_eq,Bool.false_eq_true,false_iff]
 all_goals (first | omega | (simp_all; done) | (simp_all; omega) | go_goals)
def Nd.bytes (n : Nd) : List UInt8:=be n.id.toNat 2 ++ (be n.kind.toNat 1 ++ (be n.links.toNat 2 ++ (be n.size.toNat 2 ++ (be n.til 8 ++ [fb n.closed]))))
theorem Nd.bytes_length (n : Nd) : n.bytes.length = 16:=by simp [Nd.bytes,be_length]
def ndRead (xs : List UInt8) : Nd × Nat :=
 (⟨(rdShort (xs,0)).1,(rdByte (rdShort (xs,0)).2).1,(rdShort (rdByte (rdShort (xs,0)).2).2).1,(rdShort (rdShort (rdByte (rdShort (xs,0)).2).2).2).1,
  (rdLong (rdShort (rdShort (rdByte (rdShort (xs,0)).2).2).2).2).1,(rdFlag (rdLong (rdShort (rdShort (rdByte (rdShort (xs,0)).2).2).2).2).2).1⟩,
  rdEnd (rdFlag (rdLong (rdShort (rdShort (rdByte (rdShort (xs,0)).2).2).2).2).2).2)
def ndDec (xs : List UInt8) : Option Nd:=if (ndRead xs).2 = 0 /\ (ndRead xs).1.Ok then some (ndRead xs).1 else none
def zeroNd : Nd:=⟨0,0,0,0,0,false⟩
theorem nenc_ok (n : Nd) (w : World) (h : n.Ok) : Calls Tryz.prog 177 #[.agg n.cells] w fun e w' => ∃ v,e = .returned (.tuple #[v,.int .i64 0]) /\ Own w' w.heap.size v n.bytes /\ Below w.heap.size w w':=by
 have HR:=qh (nright_any n (w.alloc (.cells n.cells 34)))
 rw [decide_eq_true h] at HR
 obtain ⟨id,kind,links,size,til,closed⟩:=n
 obtain ⟨h1,h2,h3,h4,h5⟩:=h
 simp only at h1 h2 h3 h4 h5
 obtain ⟨i,rfl⟩ : ∃ i : Nat,id = (i : Int):=⟨id.toNat,by omega⟩
 obtain ⟨k,rfl⟩ : ∃ i : Nat,kind = (i : Int):=⟨kind.toNat,by omega⟩
 obtain ⟨l,rfl⟩ : ∃ i : Nat,links = (i : Int):=⟨links.toNat,by omega⟩
 obtain ⟨s,rfl⟩ : ∃ i : Nat,size = (i : Int):=⟨size.toNat,by omega⟩
 have hk : k <= 2:=by omega
 have hs : s <= 4096:=by omega
 clear h5
 unfold Nd.cells at *
 simp only at *
 go_enter Tryz.func177,Tryz.ntmps177
 go_wp2_with fail
 refine HR.out.mono ?_
 rintro e w1 ⟨rfl,hb⟩
 have hE0:=((Ext.refl w).alloc _).step hb
 have hlt : w.heap.size < w1.heap.size:=Nat.lt_of_lt_of_le (size_alloc _ _) hb.size
 have c0 : w1.cell? ⟨w.heap.size,0,none⟩ = some (.int .i64 (i : Int)):=cell_new_below hb 0
 have c1 : w1.cell? ⟨w.heap.size,1,none⟩ = some (.int .i64 (k : Int)):=cell_new_below hb 1
 have c2 : w1.cell? ⟨w.heap.size,2,none⟩ = some (.int .i64 (l : Int)):=cell_new_below hb 2
 have c3 : w1.cell? ⟨w.heap.size,3,none⟩ = some (.int .i64 (s : Int)):=cell_new_below hb 3
 have c4 : w1.cell? ⟨w.heap.size,4,none⟩ = some (.int .u64 (til : Int)):=cell_new_below hb 4
 have c5 : w1.cell? ⟨w.heap.size,5,none⟩ = some (.bool closed):=cell_new_below hb 5
 clear hb HR
 obtain ⟨H,hH⟩:=qnm w.heap.size
 rw [<- hH] at hE0 hlt c0 c1 c2 c3 c4 c5 ⊢
 have HH:=qh hH
 clear hH
 go_wp2_with fail
 refine (wnew_any _).mono ?_
 rintro e w2 ⟨rfl,hW1,hb1⟩
 have hI2 : WI w1 w1.heap.size w1.heap.size w2 []:=⟨(Ext.refl w1).step hb1,none,hW1⟩
 generalize w1.heap.size = q at *
 clear hW1 hb1
 have d0:=hI2.cell hlt c0
 go_wp2_with fail
 refine (wshort_ok i hI2 (by omega) (by unfold big; decide)).mono ?_
 rintro e w3 ⟨rfl,hI3⟩
 have d1:=hI3.cell hlt c1
 clear d0 hI2
 go_wp2_with fail
 refine (wbyte_ok k hI3 (by omega) (by simp [be_length]; unfold big; decide)).mono ?_
 rintro e w4 ⟨rfl,hI4⟩
 have d2:=hI4.cell hlt c2
 clear d1 hI3
 go_wp2_with fail
 refine (wshort_ok l hI4 (by omega) (by simp [be_length]; unfold big; decide)).mono ?_
 rintro e w5 ⟨rfl,hI5⟩
 have d3:=hI5.cell hlt c3
 clear d2 hI4
 go_wp2_with fail
 refine (wshort_ok s hI5 (by omega) (by simp [be_length]; unfold big; decide)).mono ?_
 rintro e w6 ⟨rfl,hI6⟩
 have d4:=hI6.cell hlt c4
 clear d3 hI5
 go_wp2_with fail
 refine (wlong_ok til hI6 (by simp [be_length]; unfold big; decide)).mono ?_
 rintro e w7 ⟨rfl,hI7⟩
 have d5:=hI7.cell hlt c5
 clear d4 hI6
 go_wp2_with fail
 refine (wflag_ok closed hI7 (by simp [be_length]; unfold big; decide)).mono ?_
 rintro e w8 ⟨rfl,hI8⟩
 clear d5 hI7
 obtain ⟨hE8,g,hW8⟩:=hI8
 go_wp2_with fail
 refine (wdone_any q q g _ _ hW8 (by simp [be_length]; unfold big; decide)).mono ?_
 rintro e w9 ⟨v,rfl,ho,hb9⟩
 go_wp2_with fail
 go_ret2
 have hE9:=(hE0.to (hE8.1.mono (Nat.le_of_lt hlt))).step hb9
 rw [<- HH.out]
 exact ⟨v,rfl,(by simpa [Nd.bytes] using ho.base (hE0.to (hE8.1.mono (Nat.le_of_lt hlt))).2),hE9.1⟩
def decV (o : Option Nd) : Value:=.tuple #[.agg (o.getD zeroNd).cells,.int .i64 (if o.isSome then 0 else 12)]
theorem ndec_any (a : Option Addr) (len cap : Nat) (xs : List UInt8) (w : World) (h : Bs w a len cap xs) (hl : len <= big) :
  Calls Tryz.prog 292 #[.slice a len cap] w fun e w' => e = .returned (decV (ndDec xs)) /\ Below w.heap.size w w':=by
 have hxl:=h.1
 obtain ⟨o,ho⟩:=qnm (ndDec xs)
 have HO:=qh ho
 rw [<- ho]
 clear ho
 unfold ndDec ndRead at HO
 go_enter Tryz.func292,Tryz.ntmps292
 go_wp2_with fail
 have hE0:=(Ext.refl w).alloc (.cells #[.int .i64 0,.int .i64 0,.int .i64 0,.int .i64 0,.int .u64 0,.bool false] 34)
 have h':=h.alloc (.cells #[.int .i64 0,.int .i64 0,.int .i64 0,.int .i64 0,.int .u64 0,.bool false] 34)
 have hsz:=size_alloc w (.cells #[.int .i64 0,.int .i64 0,.int .i64 0,.int .i64 0,.int .u64 0,.bool false] 34)
 have C:=cell_new w #[.int .i64 0,.int .i64 0,.int .i64 0,.int .i64 0,.int .u64 0,.bool false] 34
 have F:=frozen_new w #[.int .i64 0,.int .i64 0,.int .i64 0,.int .i64 0,.int .u64 0,.bool false] 34
 have C0:=C 0
 have C1:=C 1
 have C2:=C 2
 have C3:=C 3
 have C4:=C 4
 have C5:=C 5
 simp only [List.getElem?_toArray,List.getElem?_cons_zero,List.getElem?_cons_succ] at C0 C1 C2 C3 C4 C5
 have F0:=F 0; have F1:=F 1; have F2:=F 2; have F3:=F 3; have F4:=F 4; have F5:=F 5
 clear C F h
 generalize w.alloc (.cells #[.int .i64 0,.int .i64 0,.int .i64 0,.int .i64 0,.int .u64 0,.bool false] 34) = w0 at *
 obtain ⟨H,hH⟩:=qnm w.heap.size
 rw [<- hH] at hE0 hsz C0 C1 C2 C3 C4 C5 F0 F1 F2 F3 F4 F5 ⊢
 have HH:=qh hH
 clear hH
 refine (rnew_any a len cap xs _ h' hl).mono ?_
 rintro e w1 ⟨q,rb,rfl,hR,hb1⟩
 have hE1:=(Ext.refl w0).step hb1
 have HC:=qh (aI C0 (aI C1 (aI C2 (aI C3 (aI C4 C5)))))
 have HF:=qh (aI F0 (aI F1 (aI F2 (aI F3 (aI F4 F5)))))
 obtain ⟨p,hp⟩:=qnm w0.heap.size
 rw [<- hp] at hR hE1 hsz
 clear h' hb1 C0 C1 C2 C3 C4 C5 F0 F1 F2 F3 F4 F5 hp
 have hb0 : xs.length <= big:=by omega
 clear hl hxl
 have l1 : (rdShort (xs,0)).2.1.length <= big:=Nat.le_trans (rdRaw_left (xs,0) 2) hb0
 have hv1:=rdShort_lt (xs,0)
 have hC1:=qh (rshort_any p q rb (xs,0) w1 hR hb0)
 generalize (rdShort (xs,0)).1 = v1 at *
 generalize (rdShort (xs,0)).2 = s1 at *
 have l2 : (rdByte s1).2.1.length <= big:=Nat.le_trans (rdRaw_left s1 1) l1
 have hv2:=rdByte_lt s1
 have hC2:=qh (fun w h => rbyte_any p q rb s1 w h l1)
 generalize (rdByte s1).1 = v2 at *
 generalize (rdByte s1).2 = s2 at *
 have l3 : (rdShort s2).2.1.length <= big:=Nat.le_trans (rdRaw_left s2 2) l2
 have hv3:=rdShort_lt s2
 have hC3:=qh (fun w h => rshort_any p q rb s2 w h l2)
 generalize (rdShort s2).1 = v3 at *
 generalize (rdShort s2).2 = s3 at *
 have l4 : (rdShort s3).2.1.length <= big:=Nat.le_trans (rdRaw_left s3 2) l3
 have hv4:=rdShort_lt s3
 have hC4:=qh (fun w h => rshort_any p q rb s3 w h l3)
 generalize (rdShort s3).1 = v4 at *
 generalize (rdShort s3).2 = s4 at *
 have l5 : (rdLong s4).2.1.length <= big:=Nat.le_trans (rdRaw_left s4 8) l4
 have hv5:=rdLong_lt s4
 have hC5:=qh (fun w h => rlong_any p q rb s4 w h l4)
 generalize (rdLong s4).1 = v5 at *
 generalize (rdLong s4).2 = s5 at *
 have hC6:=qh (fun w h => rflag_any p q rb s5 w h l5)
 generalize (rdFlag s5).1 = v6 at *
 generalize (rdFlag s5).2 = s6 at *
 clear l1 l2 l3 l4 l5 hb0
 go_wp2_with fail
 refine hC1.out.mono ?_
 rintro e w2 ⟨rfl,hP⟩
 obtain ⟨hE2,hR2⟩:=hE1.next hP
 clear hP hE1 hR
 go_wp2_with fail
 refine (hC2.out _ hR2).mono ?_
 rintro e w3 ⟨rfl,hP⟩
 obtain ⟨hE3,hR3⟩:=hE2.next hP
 clear hP hE2 hR2
 go_wp2_with fail
 refine (hC3.out _ hR3).mono ?_
 rintro e w4 ⟨rfl,hP⟩
 obtain ⟨hE4,hR4⟩:=hE3.next hP
 clear hP hE3 hR3
 go_wp2_with fail
 refine (hC4.out _ hR4).mono ?_
 rintro e w5 ⟨rfl,hP⟩
 obtain ⟨hE5,hR5⟩:=hE4.next hP
 clear hP hE4 hR4
 go_wp2_with fail
 refine (hC5.out _ hR5).mono ?_
 rintro e w6 ⟨rfl,hP⟩
 obtain ⟨hE6,hR6⟩:=hE5.next hP
 clear hP hE5 hR5
 go_wp2_with fail
 refine (hC6.out _ hR6).mono ?_
 rintro e w7 ⟨rfl,hP⟩
 obtain ⟨hE7,hR7⟩:=hE6.next hP
 clear hP hE6 hR6 hC1 hC2 hC3 hC4 hC5 hC6
 obtain ⟨c0,c1,c2,c3,c4,c5⟩:=HC.out
 obtain ⟨f0,f1,f2,f3,f4,f5⟩:=HF.out
 have c0:=hE7.cel hsz c0
 have c1:=hE7.cel hsz c1
 have c2:=hE7.cel hsz c2
 have c3:=hE7.cel hsz c3
 have c4:=hE7.cel hsz c4
 have c5:=hE7.cel hsz c5
 have f0:=hE7.frz hsz f0
 have f1:=hE7.frz hsz f1
 have f2:=hE7.frz hsz f2
 have f3:=hE7.frz hsz f3
 have f4:=hE7.frz hsz f4
 have f5:=hE7.frz hsz f5
 go_wp2_with fail
 have hlt7 : H < w7.heap.size:=Nat.lt_of_lt_of_le hsz hE7.2
 have HR:=qh (nright_any ⟨v1,v2,v3,v4,v5,v6⟩ (w7.alloc (.cells #[.int .i64 (v1 : Int),.int .i64 (v2 : Int),.int .i64 (v3 : Int),.int .i64 (v4 : Int),.int .u64 (v5 : Int),.bool v6] 34)))
 unfold Nd.cells at HR
 simp only at HR
 refine (rend_any p q rb s6 _ (hR7.below ((Below.refl _ _).alloc (Nat.le_refl _) _))).mono ?_
 rintro e w8 ⟨rfl,rfl⟩
 generalize rdEnd s6 = en at *
 have hEw:=(hE0.to (hE7.1.mono (Nat.le_of_lt hsz))).alloc (.cells #[.int .i64 (v1 : Int),.int .i64 (v2 : Int),.int .i64 (v3 : Int),.int .i64 (v4 : Int),.int .u64 (v5 : Int),.bool v6] 34)
 by_cases hen : en = 0
 ·subst hen
  go_wp2_with fail
  refine HR.out.mono ?_
  rintro e w8 ⟨rfl,hb⟩
  have hE8:=(hE7.alloc _).step hb
  have d0:=cell_new_below hb 0
  have d1:=cell_new_below hb 1
  have d2:=cell_new_below hb 2
  have d3:=cell_new_below hb 3
  have d4:=cell_new_below hb 4
  have d5:=cell_new_below hb 5
  clear c0 c1 c2 c3 c4 c5 f0 f1 f2 f3 f4 f5
  obtain ⟨c0,c1,c2,c3,c4,c5⟩:=HC.out
  obtain ⟨f0,f1,f2,f3,f4,f5⟩:=HF.out
  have c0:=hE8.cel hsz c0
  have c1:=hE8.cel hsz c1
  have c2:=hE8.cel hsz c2
  have c3:=hE8.cel hsz c3
  have c4:=hE8.cel hsz c4
  have c5:=hE8.cel hsz c5
  have f0:=hE8.frz hsz f0
  have f1:=hE8.frz hsz f1
  have f2:=hE8.frz hsz f2
  have f3:=hE8.frz hsz f3
  have f4:=hE8.frz hsz f4
  have f5:=hE8.frz hsz f5
  generalize w7.heap.size = G at *
  by_cases hok : Nd.Ok ⟨v1,v2,v3,v4,v5,v6⟩
  ·have ho : o = some ⟨v1,v2,v3,v4,v5,v6⟩:=by rw [HO.out,if_pos ⟨trivial,hok⟩]
   have hdk:=decide_eq_true hok
   subst ho
   rw [hdk]
   clear HO hok hdk
   go_wp2_with fail
   refine bodyPost_ret (v:=decV (some ⟨v1,v2,v3,v4,v5,v6⟩)) (by simp [results,Tryz.results292,go_sem,decV,Nd.cells,c0,c1,c2,c3,c4,c5]) rfl ⟨rfl,?_⟩
   rw [<- HH.out]
   exact ((((((((hEw.step hb).setCell (Nat.le_refl _) _).setCell (Nat.le_refl _) _).setCell (Nat.le_refl _) _).setCell (Nat.le_refl _) _).setCell (Nat.le_refl _) _).setCell (Nat.le_refl _) _)).1
  ·have ho : o = none:=by rw [HO.out,if_neg (fun h => hok h.2)]
   have hdk:=decide_eq_false hok
   subst ho
   rw [hdk]
   clear HO hok hdk
   go_wp2_with fail
   refine bodyPost_ret (v:=decV none) (by simp [results,Tryz.results292,go_sem,decV,Nd.cells,zeroNd,c0,c1,c2,c3,c4,c5]) rfl ⟨rfl,?_⟩
   rw [<- HH.out]
   exact ((((((((hEw.step hb).setCell (Nat.le_refl _) _).setCell (Nat.le_refl _) _).setCell (Nat.le_refl _) _).setCell (Nat.le_refl _) _).setCell (Nat.le_refl _) _).setCell (Nat.le_refl _) _)).1
 ·have hen1 : ((en : Int) != 0) = true:=by rw [bne_iff_ne]; omega
  have ho : o = none:=by rw [HO.out,if_neg (fun h => hen h.1)]
  subst ho
  clear HO hen
  go_wp2_with fail
  refine bodyPost_ret (v:=decV none) (by simp [results,Tryz.results292,go_sem,decV,Nd.cells,zeroNd,c0,c1,c2,c3,c4,c5,hlt7]) rfl ⟨rfl,?_⟩
  rw [<- HH.out]
  have hEv:=hE0.to (hE7.1.mono (Nat.le_of_lt hsz))
  exact (((((((hEv.setCell (Nat.le_refl _) _).setCell (Nat.le_refl _) _).setCell (Nat.le_refl _) _).setCell (Nat.le_refl _) _).setCell (Nat.le_refl _) _).setCell (Nat.le_refl _) _).alloc _).1
theorem ndDec_bytes (n : Nd) (h : n.Ok) (ht : n.til < 18446744073709551616) : ndDec n.bytes = some n:=by
 have hr : ndRead n.bytes = (n,0):=by
  obtain ⟨id,kind,links,size,til,closed⟩:=n
  obtain ⟨h1,h2,h3,h4,h5⟩:=h
  simp only at h1 h2 h3 h4 h5 ht
  have e1 : (be til 8 ++ [fb closed]) = be til 8 ++ ([fb closed] ++ []):=by simp
  unfold ndRead Nd.bytes
  simp only
  rw [rdShort_be,Nat.mod_eq_of_lt (by omega)]
  simp only
  rw [rdByte_be,Nat.mod_eq_of_lt (by omega)]
  simp only
  rw [rdShort_be,Nat.mod_eq_of_lt (by omega)]
  simp only
  rw [rdShort_be,Nat.mod_eq_of_lt (by omega)]
  simp only
  rw [rdLong_be _ _ ht]
  simp only
  rw [rdFlag_ok]
  have a1 : ((id.toNat : Nat) : Int) = id:=by omega
  have a2 : ((kind.toNat : Nat) : Int) = kind:=by omega
  have a3 : ((links.toNat : Nat) : Int) = links:=by omega
  have a4 : ((size.toNat : Nat) : Int) = size:=by omega
  rw [a1,a2,a3,a4]
  rfl
 unfold ndDec
 rw [hr,if_pos ⟨rfl,h⟩]
end
section
open Go.RowKit Go.ChangeMaps Go.MapKept
set_option linter.unusedSectionVars false
abbrev TTree : TypeId:=188
abbrev TItem : TypeId:=192
abbrev TStr : TypeId:=9
theorem skeyed : Maps.Keyed Tryz.prog TStr:=Maps.string_keyed Tryz.underlying9
theorem skey (s : List UInt8) (h : s.length <= maxLen) : keyOf Tryz.prog TStr (.string (strOf s)) = some (strS.lit s):=strS_key Tryz.underlying9 s h
structure It where
 n : Nd
 b : List UInt8
 names : List (List UInt8 × Nat)
abbrev Tr:=List (Nat × It)
section
variable {κ α : Type} [DecidableEq κ] (S : Spell κ)
def vals (f : κ -> α -> Value) (L : List (κ × α)) : List (κ × Value):=L.map fun p => (p.1,f p.1 p.2)
theorem vals_len (f : κ -> α -> Value) (L : List (κ × α)) : (vals f L).length = L.length:=by simp [vals]
theorem vals_get (f : κ -> α -> Value) (L : List (κ × α)) (k : κ) : getK k (vals f L) = (getK k L).map (f k):=by
 unfold getK vals
 induction L with
 | nil => rfl
 | cons y r ih =>
  simp only [List.map_cons,List.find?_cons]
  by_cases h : y.1 = k
  ·simp [h]
  ·simpa [h] using ih
theorem vals_del (f : κ -> α -> Value) (L : List (κ × α)) (k : κ) : delK k (vals f L) = vals f (delK k L):=by
 unfold delK vals
 rw [List.filter_map]
 rfl
theorem vals_ins (f : κ -> α -> Value) (L : List (κ × α)) (x : κ × α) : insK S (x.1,f x.1 x.2) (vals f L) = vals f (insK S x L):=by
 unfold vals
 induction L with
 | nil => rfl
 | cons y r ih =>
  simp only [List.map_cons,insK]
  split
  ·rfl
  ·rw [List.map_cons,<- ih]
theorem vals_put (f : κ -> α -> Value) (L : List (κ × α)) (k : κ) (v : α) : putK S k (f k v) (vals f L) = vals f (putK S k v L):=by
 have h:=vals_del f L k
 unfold delK at h
 unfold putK
 rw [h]
 exact vals_ins S f _ (k,v)
theorem vals_congr {f g : κ -> α -> Value} {L : List (κ × α)} (h : ∀ k v,getK k L = some v -> f k v = g k v) (hu : L.Pairwise (fun p q => p.1 ≠ q.1)) : vals f L = vals g L:=by
 unfold vals
 refine List.map_congr_left fun p hp => ?_
 rw [h p.1 p.2]
 unfold getK
 induction L with
 | nil => simp at hp
 | cons y r ih =>
  rw [List.find?_cons]
  obtain ⟨h1,h2⟩:=List.pairwise_cons.1 hu
  rcases List.mem_cons.1 hp with rfl | hp
  ·simp
  ·have hne:=h1 p hp
   simp only [decide_eq_false hne]
   exact ih (fun k v hk => h k v (by
    unfold getK at hk ⊢
    rw [List.find?_cons]
    by_cases hy : y.1 = k
    ·exfalso
     obtain ⟨q,hq,_⟩:=Option.map_eq_some_iff.1 hk
     have hq1:=List.find?_some hq
     have hq2:=List.mem_of_find?_eq_some hq
     exact h1 q hq2 (by simpa [hy] using (of_decide_eq_true hq1).symm)
    ·simpa [hy] using hk)) h2 hp
theorem getK_of_mem {L : List (κ × α)} (hu : L.Pairwise (fun p q => p.1 ≠ q.1)) {k : κ} {v : α} (h : (k,v) ∈ L) : getK k L = some v:=by
 unfold getK
 induction L with
 | nil => simp at h
 | cons y r ih =>
  obtain ⟨h1,h2⟩:=List.pairwise_cons.1 hu
  rw [List.find?_cons]
  rcases List.mem_cons.1 h with rfl | h
  ·simp
  ·have:=h1 _ h
   simp only [decide_eq_false this]
   exact ih h2 h
theorem mem_of_getK {L : List (κ × α)} {k : κ} {v : α} (h : getK k L = some v) : (k,v) ∈ L:=by
 unfold getK at h
 obtain ⟨q,hq,rfl⟩:=Option.map_eq_some_iff.1 h
 have hq1:=List.find?_some hq
 have hq2:=List.mem_of_find?_eq_some hq
 have : q.1 = k:=by simpa using hq1
 subst this
 exact hq2
end
def nval (_ : List UInt8) (n : Nat) : Value:=.int .i64 (n : Int)
def ival (F : Nat -> Nat) (i : Nat) (_ : It) : Value:=.pointer (some ⟨F i,0,none⟩)
def itC (n : Nd) (v m : Value) : Array Value:=#[.int .i64 n.id,.int .i64 n.kind,.int .i64 n.links,.int .i64 n.size,.int .u64 (n.til : Int),.bool n.closed,v,m]
def ItAt (w : World) (L B g nb : Nat) (x : It) : Prop :=
 B <= g /\ ∃ v m,w.heap[g]? = some (.cells (itC x.n v m) TItem (0,0)) /\ Own w L v x.b /\
  (x.n.kind = 2 -> m = .map (some nb) /\ B <= nb /\ MapAt strS Tryz.prog TStr w nb (vals nval x.names)) /\ (x.n.kind ≠ 2 -> m = .map none /\ x.names = [])
theorem ItAt.below {w w' : World} {L B g nb : Nat} {x : It} (h : ItAt w L B g nb x) (hb : Below w.heap.size w w') : ItAt w' L B g nb x:=by
 obtain ⟨h1,v,m,h2,h3,h4,h5⟩:=h
 refine ⟨h1,v,m,(hb.block g (Array.getElem?_eq_some_iff.1 h2).1).trans h2,h3.below hb,fun hk => ?_,h5⟩
 obtain ⟨k1,k2,k3⟩:=h4 hk
 exact ⟨k1,k2,k3.below strS hb⟩
theorem ItAt.lt {w : World} {L B g nb : Nat} {x : It} (h : ItAt w L B g nb x) : g < w.heap.size:=by
 obtain ⟨h1,v,m,h2,_⟩:=h
 exact (Array.getElem?_eq_some_iff.1 h2).1
theorem ItAt.ltn {w : World} {L B g nb : Nat} {x : It} (h : ItAt w L B g nb x) (hk : x.n.kind = 2) : nb < w.heap.size:=by
 obtain ⟨h1,v,m,h2,h3,h4,h5⟩:=h
 exact (h4 hk).2.2.lt
theorem Own.chg0 {S : Nat -> Prop} {w w' : World} {B : Nat} {v : Value} {xs : List UInt8} (h : Own w B v xs) (hc : Chg S w w') (hs : ∀ k,k < w.heap.size -> S k -> ∀ C,w.heap[k]? ≠ some (.cells C TB (0,0))) : Own w' B v xs:=by
 refine hc.own h fun k hk hS => ?_
 rcases h.parts with ⟨rfl,rfl⟩ | ⟨g,cap,rfl,hB,hr⟩
 ·simp [Value.ownBlock] at hk
 ·have : g = k:=by simpa [Value.ownBlock] using hk
  subst this
  obtain ⟨cur,h1,_⟩:=hr
  exact hs g (Array.getElem?_eq_some_iff.1 h1).1 hS _ h1
theorem ItAt.chg {S : Nat -> Prop} {w w' : World} {L B g nb : Nat} {x : It} (h : ItAt w L B g nb x) (hc : Chg S w w') (hs : ∀ k,k < w.heap.size -> S k -> ∀ C,w.heap[k]? ≠ some (.cells C TB (0,0))) (hg : ¬ S g) (hn : x.n.kind = 2 -> ¬ S nb) : ItAt w' L B g nb x:=by
 obtain ⟨h1,v,m,h2,h3,h4,h5⟩:=h
 refine ⟨h1,v,m,(hc.block g (Array.getElem?_eq_some_iff.1 h2).1 hg).trans h2,h3.chg0 hc hs,fun hk => ?_,h5⟩
 obtain ⟨k1,k2,k3⟩:=h4 hk
 exact ⟨k1,k2,k3.same strS (hc.block nb k3.lt (hn hk))⟩
structure TreeIn (w : World) (L B t mb : Nat) (F G : Nat -> Nat) (T : Tr) : Prop where
 tge : B <= t
 mge : B <= mb
 cel : w.heap[t]? = some (.cells #[.map (some mb)] TTree (0,0))
 map : MapAt numS Tryz.prog TI64 w mb (vals (ival F) T)
 item : ∀ i x,getK i T = some x -> ItAt w L B (F i) (G i) x
 gm : ∀ i x,getK i T = some x -> x.n.kind = 2 -> G i ≠ mb
 injF : ∀ i j x y,getK i T = some x -> getK j T = some y -> F i = F j -> i = j
 injG : ∀ i j x y,getK i T = some x -> getK j T = some y -> x.n.kind = 2 -> y.n.kind = 2 -> G i = G j -> i = j
def TreeAt (w : World) (L B t : Nat) (T : Tr) : Prop:=∃ mb F G,TreeIn w L B t mb F G T
variable {w w' : World} {L B t mb : Nat} {F G : Nat -> Nat} {T : Tr}
theorem TreeIn.lt (h : TreeIn w L B t mb F G T) : t < w.heap.size:=(Array.getElem?_eq_some_iff.1 h.cel).1
theorem TreeIn.below (h : TreeIn w L B t mb F G T) (hb : Below w.heap.size w w') : TreeIn w' L B t mb F G T where
 tge:=h.tge
 mge:=h.mge
 cel:=(hb.block t h.lt).trans h.cel
 map:=h.map.below numS hb
 item i x hx:=(h.item i x hx).below hb
 gm:=h.gm
 injF:=h.injF
 injG:=h.injG
theorem TreeAt.below (h : TreeAt w L B t T) (hb : Below w.heap.size w w') : TreeAt w' L B t T:=by
 obtain ⟨mb,F,G,h⟩:=h
 exact ⟨mb,F,G,h.below hb⟩
theorem ItAt.weaken {B' g nb : Nat} {x : It} (h : ItAt w L B g nb x) (hB : B' <= B) : ItAt w L B' g nb x:=by
 obtain ⟨h1,v,m,h2,h3,h4,h5⟩:=h
 exact ⟨by omega,v,m,h2,h3,fun hk => by obtain ⟨k1,k2,k3⟩:=h4 hk; exact ⟨k1,by omega,k3⟩,h5⟩
theorem TreeAt.weaken {B' : Nat} (h : TreeAt w L B t T) (hB : B' <= B) : TreeAt w L B' t T:=by
 obtain ⟨mb,F,G,h⟩:=h
 exact ⟨mb,F,G,{ h with tge:=Nat.le_trans hB h.tge,mge:=Nat.le_trans hB h.mge,item:=fun i x hx => (h.item i x hx).weaken hB }⟩
theorem TreeIn.uniq (h : TreeIn w L B t mb F G T) : T.Pairwise (fun p q => p.1 < q.1):=by
 have:=h.map.rising
 unfold vals at this
 rw [List.pairwise_map] at this
 exact this
end
section
open Go.RowKit Go.ChangeMaps Go.MapKept
set_option linter.unusedSectionVars false
def setT (T : Tr) (i : Nat) (x : It) : Tr:=T.map fun p => if p.1 = i then (p.1,x) else p
theorem setT_get (T : Tr) (i j : Nat) (x : It) : getK j (setT T i x) = if j = i then (getK i T).map (fun _ => x) else getK j T:=by
 unfold getK setT
 induction T with
 | nil => by_cases h : j = i <;> simp [h]
 | cons y r ih =>
  simp only [List.map_cons,List.find?_cons]
  by_cases hy : y.1 = i
  ·by_cases hj : j = i
   ·subst hj; simp [hy]
   ·have : ¬ y.1 = j:=by rw [hy]; exact fun e => hj e.symm
    have h2 : ¬ i = j:=fun e => hj e.symm
    simp [hy,hj,h2] at ih ⊢
    exact ih
  ·by_cases hj : j = i
   ·subst hj
    simp [hy] at ih ⊢
    exact ih
   ·simp only [hy,hj,if_false] at ih ⊢
    by_cases h3 : y.1 = j
    ·simp [h3]
    ·simpa [h3] using ih
theorem setT_vals (F : Nat -> Nat) (T : Tr) (i : Nat) (x : It) : vals (ival F) (setT T i x) = vals (ival F) T:=by
 unfold vals setT
 rw [List.map_map]
 refine List.map_congr_left fun p _ => ?_
 simp only [Function.comp_apply]
 by_cases h : p.1 = i
 ·rw [if_pos h]; rfl
 ·rw [if_neg h]
variable {w w' : World} {L B t mb : Nat} {F G : Nat -> Nat} {T : Tr}
theorem TreeIn.block (h : TreeIn w L B t mb F G T) {i : Nat} {x : It} (hx : getK i T = some x) : ∃ v m,w.heap[F i]? = some (.cells (itC x.n v m) TItem (0,0)):=by
 obtain ⟨_,v,m,h2,_⟩:=h.item i x hx
 exact ⟨v,m,h2⟩
theorem TreeIn.tF (h : TreeIn w L B t mb F G T) {i : Nat} {x : It} (hx : getK i T = some x) : F i ≠ t /\ F i ≠ mb:=by
 obtain ⟨v,m,h2⟩:=h.block hx
 obtain ⟨es,cl,hm,_⟩:=h.map
 refine ⟨fun e => ?_,fun e => ?_⟩
 ·rw [e,h.cel] at h2; injection h2 with h2; injection h2 with _ h2; exact absurd h2 (by decide)
 ·rw [e,hm] at h2; injection h2 with h2; cases h2
theorem TreeIn.tm (h : TreeIn w L B t mb F G T) : t ≠ mb:=by
 obtain ⟨es,cl,hm,_⟩:=h.map
 intro e
 have:=h.cel
 rw [e,hm] at this; injection this with this; cases this
theorem TreeIn.gF (h : TreeIn w L B t mb F G T) {i j : Nat} {x y : It} (hx : getK i T = some x) (hy : getK j T = some y) (hk : y.n.kind = 2) : F i ≠ G j:=by
 obtain ⟨v,m,h2⟩:=h.block hx
 obtain ⟨_,v',m',_,_,h4,_⟩:=h.item j y hy
 obtain ⟨_,_,es,cl,hm,_⟩:=h4 hk
 intro e
 rw [e,hm] at h2; injection h2 with h2; cases h2
theorem TreeIn.gt (h : TreeIn w L B t mb F G T) {j : Nat} {y : It} (hy : getK j T = some y) (hk : y.n.kind = 2) : G j ≠ t:=by
 obtain ⟨_,v',m',_,_,h4,_⟩:=h.item j y hy
 obtain ⟨_,_,es,cl,hm,_⟩:=h4 hk
 intro e
 have:=h.cel
 rw [<- e,hm] at this; injection this with this; cases this
theorem TreeIn.setItem (h : TreeIn w L B t mb F G T) {i : Nat} {x x' : It} (hx : getK i T = some x) (hc : Chg (fun k => k = F i) w w') {v m v' : Value} (h1 : w.heap[F i]? = some (.cells (itC x.n v m) TItem (0,0)))
  (h2 : w'.heap[F i]? = some (.cells (itC x'.n v' m) TItem (0,0))) (hv : Own w' L v' x'.b) (hk : x'.n.kind = x.n.kind) (hn : x'.names = x.names) : TreeIn w' L B t mb F G (setT T i x') where
 tge:=h.tge
 mge:=h.mge
 cel:=(hc.block t h.lt (fun e => (h.tF hx).1 e.symm)).trans h.cel
 map:=by rw [setT_vals]; exact h.map.same numS (hc.block mb h.map.lt (fun e => (h.tF hx).2 e.symm))
 item j y hy:=by
  rw [setT_get] at hy
  by_cases hj : j = i
  ·subst hj
   rw [if_pos rfl,hx] at hy
   injection hy with hy
   subst hy
   obtain ⟨g1,v0,m0,g2,g3,g4,g5⟩:=h.item j x hx
   rw [g2] at h1
   injection h1 with h1
   injection h1 with h1
   have hm0 : m0 = m:=by
    have:=congrArg (fun a : Array Value => a[7]?) h1
    simpa [itC] using this
   refine ⟨g1,v',m,h2,hv,fun hk2 => ?_,fun hk2 => ?_⟩
   ·obtain ⟨k1,k2,k3⟩:=g4 (by rw [<- hk]; exact hk2)
    rw [hn]
    exact ⟨by rw [<- hm0]; exact k1,k2,k3.same strS (hc.block _ k3.lt (fun e => (h.gF hx hx (by rw [<- hk]; exact hk2)) e.symm))⟩
   ·obtain ⟨k1,k2⟩:=g5 (by rw [<- hk]; exact hk2)
    exact ⟨by rw [<- hm0]; exact k1,by rw [hn]; exact k2⟩
  ·rw [if_neg hj] at hy
   refine (h.item j y hy).chg hc (fun k _ e C hC => ?_) (fun e => hj (h.injF j i y x hy hx e)) (fun hk2 e => (h.gF hx hy hk2) e.symm)
   subst e
   rw [h1] at hC
   injection hC with hC
   injection hC with _ hC
   exact absurd hC (by decide)
 gm j y hy hk2:=by
  rw [setT_get] at hy
  by_cases hj : j = i
  ·subst hj
   rw [if_pos rfl,hx] at hy
   injection hy with hy
   subst hy
   exact h.gm j x hx (by rw [<- hk]; exact hk2)
  ·rw [if_neg hj] at hy
   exact h.gm j y hy hk2
 injF a b y z hy hz e:=by
  have hd : ∀ a y,getK a (setT T i x') = some y -> ∃ y',getK a T = some y':=fun a y hy => by
   rw [setT_get] at hy
   by_cases hj : a = i
   ·subst hj; exact ⟨x,hx⟩
   ·rw [if_neg hj] at hy; exact ⟨y,hy⟩
  obtain ⟨y',hy'⟩:=hd a y hy
  obtain ⟨z',hz'⟩:=hd b z hz
  exact h.injF a b y' z' hy' hz' e
 injG a b y z hy hz ky kz e:=by
  have hd : ∀ a y,getK a (setT T i x') = some y -> y.n.kind = 2 -> ∃ y',getK a T = some y' /\ y'.n.kind = 2:=fun a y hy hk2 => by
   rw [setT_get] at hy
   by_cases hj : a = i
   ·subst hj
    rw [if_pos rfl,hx] at hy
    injection hy with hy
    subst hy
    exact ⟨x,hx,by rw [<- hk]; exact hk2⟩
   ·rw [if_neg hj] at hy; exact ⟨y,hy,hk2⟩
  obtain ⟨y',hy',ky'⟩:=hd a y hy ky
  obtain ⟨z',hz',kz'⟩:=hd b z hz kz
  exact h.injG a b y' z' hy' hz' ky' kz' e
theorem TreeIn.setNames (h : TreeIn w L B t mb F G T) {i : Nat} {x : It} {l : List (List UInt8 × Nat)} (hx : getK i T = some x) (hk : x.n.kind = 2) (hc : Chg (fun k => k = G i) w w') (hm : MapAt strS Tryz.prog TStr w' (G i) (vals nval l)) :
  TreeIn w' L B t mb F G (setT T i ⟨x.n,x.b,l⟩) where
 tge:=h.tge
 mge:=h.mge
 cel:=(hc.block t h.lt (fun e => (h.gt hx hk) e.symm)).trans h.cel
 map:=by rw [setT_vals]; exact h.map.same numS (hc.block mb h.map.lt (fun e => (h.gm i x hx hk) e.symm))
 item j y hy:=by
  have hno : ∀ k,k < w.heap.size -> k = G i -> ∀ C,w.heap[k]? ≠ some (.cells C TB (0,0)):=fun k _ e C hC => by
   obtain ⟨_,v',m',_,_,h4,_⟩:=h.item i x hx
   obtain ⟨_,_,es,cl,hmm,_⟩:=h4 hk
   rw [e,hmm] at hC; injection hC with hC; cases hC
  rw [setT_get] at hy
  by_cases hj : j = i
  ·subst hj
   rw [if_pos rfl,hx] at hy
   injection hy with hy
   subst hy
   obtain ⟨g1,v0,m0,g2,g3,g4,g5⟩:=h.item j x hx
   refine ⟨g1,v0,m0,(hc.block _ (Array.getElem?_eq_some_iff.1 g2).1 (h.gF hx hx hk)).trans g2,g3.chg0 hc hno,fun _ => ⟨(g4 hk).1,(g4 hk).2.1,hm⟩,fun hk2 => absurd hk hk2⟩
  ·rw [if_neg hj] at hy
   exact (h.item j y hy).chg hc hno (fun e => (h.gF hy hx hk) e) (fun hk2 e => hj (h.injG j i y x hy hx hk2 hk e))
 gm j y hy hk2:=by
  rw [setT_get] at hy
  by_cases hj : j = i
  ·subst hj
   exact h.gm j x hx hk
  ·rw [if_neg hj] at hy
   exact h.gm j y hy hk2
 injF a b y z hy hz e:=by
  have hd : ∀ a y,getK a (setT T i ⟨x.n,x.b,l⟩) = some y -> ∃ y',getK a T = some y':=fun a y hy => by
   rw [setT_get] at hy
   by_cases hj : a = i
   ·subst hj; exact ⟨x,hx⟩
   ·rw [if_neg hj] at hy; exact ⟨y,hy⟩
  obtain ⟨y',hy'⟩:=hd a y hy
  obtain ⟨z',hz'⟩:=hd b z hz
  exact h.injF a b y' z' hy' hz' e
 injG a b y z hy hz ky kz e:=by
  have hd : ∀ a y,getK a (setT T i ⟨x.n,x.b,l⟩) = some y -> y.n.kind = 2 -> ∃ y',getK a T = some y' /\ y'.n.kind = 2:=fun a y hy hk2 => by
   rw [setT_get] at hy
   by_cases hj : a = i
   ·subst hj
    exact ⟨x,hx,hk⟩
   ·rw [if_neg hj] at hy; exact ⟨y,hy,hk2⟩
  obtain ⟨y',hy',ky'⟩:=hd a y hy ky
  obtain ⟨z',hz',kz'⟩:=hd b z hz kz
  exact h.injG a b y' z' hy' hz' ky' kz' e
theorem TreeIn.delItem (h : TreeIn w L B t mb F G T) {i : Nat} (hc : Chg (fun k => k = mb) w w') (hm : MapAt numS Tryz.prog TI64 w' mb (vals (ival F) (delK i T))) : TreeIn w' L B t mb F G (delK i T) where
 tge:=h.tge
 mge:=h.mge
 cel:=(hc.block t h.lt h.tm).trans h.cel
 map:=hm
 item j y hy:=by
  rw [getK_del] at hy
  by_cases hj : j = i
  ·rw [if_pos hj] at hy; cases hy
  ·rw [if_neg hj] at hy
   refine (h.item j y hy).chg hc (fun k _ e C hC => ?_) (fun e => (h.tF hy).2 e) (fun hk2 e => h.gm j y hy hk2 e)
   obtain ⟨es,cl,hmm,_⟩:=h.map
   rw [e,hmm] at hC; injection hC with hC; cases hC
 gm j y hy hk2:=by
  rw [getK_del] at hy
  by_cases hj : j = i
  ·rw [if_pos hj] at hy; cases hy
  ·rw [if_neg hj] at hy; exact h.gm j y hy hk2
 injF a b y z hy hz e:=by
  rw [getK_del] at hy hz
  by_cases ha : a = i
  ·rw [if_pos ha] at hy; cases hy
  ·by_cases hb : b = i
   ·rw [if_pos hb] at hz; cases hz
   ·rw [if_neg ha] at hy; rw [if_neg hb] at hz; exact h.injF a b y z hy hz e
 injG a b y z hy hz ky kz e:=by
  rw [getK_del] at hy hz
  by_cases ha : a = i
  ·rw [if_pos ha] at hy; cases hy
  ·by_cases hb : b = i
   ·rw [if_pos hb] at hz; cases hz
   ·rw [if_neg ha] at hy; rw [if_neg hb] at hz; exact h.injG a b y z hy hz ky kz e
def upd (F : Nat -> Nat) (i g j : Nat) : Nat:=if j = i then g else F j
theorem TreeIn.addItem (h : TreeIn w L B t mb F G T) {i g nb : Nat} {x : It} (hc : Chg (fun k => k = mb) w w') (hI : ItAt w' L B g nb x) (hg : ∀ j y,getK j T = some y -> F j ≠ g) (hn : x.n.kind = 2 -> nb ≠ mb /\ ∀ j y,getK j T = some y -> y.n.kind = 2 -> G j ≠ nb)
  (hm : MapAt numS Tryz.prog TI64 w' mb (vals (ival (upd F i g)) (putK numS i x T))) : TreeIn w' L B t mb (upd F i g) (upd G i nb) (putK numS i x T) where
 tge:=h.tge
 mge:=h.mge
 cel:=(hc.block t h.lt h.tm).trans h.cel
 map:=hm
 item j y hy:=by
  rw [getK_put] at hy
  by_cases hj : j = i
  ·rw [if_pos hj] at hy
   injection hy with hy
   subst hy
   unfold upd
   rw [if_pos hj,if_pos hj]
   exact hI
  ·rw [if_neg hj] at hy
   unfold upd
   rw [if_neg hj,if_neg hj]
   refine (h.item j y hy).chg hc (fun k _ e C hC => ?_) (fun e => (h.tF hy).2 e) (fun hk2 e => h.gm j y hy hk2 e)
   obtain ⟨es,cl,hmm,_⟩:=h.map
   rw [e,hmm] at hC; injection hC with hC; cases hC
 gm j y hy hk2:=by
  rw [getK_put] at hy
  unfold upd
  by_cases hj : j = i
  ·rw [if_pos hj] at hy ⊢
   injection hy with hy
   subst hy
   exact (hn hk2).1
  ·rw [if_neg hj] at hy ⊢; exact h.gm j y hy hk2
 injF a b y z hy hz e:=by
  rw [getK_put] at hy hz
  unfold upd at e
  by_cases ha : a = i
  ·by_cases hb : b = i
   ·rw [ha,hb]
   ·rw [if_neg hb] at hz
    rw [if_pos ha,if_neg hb] at e
    exact absurd e.symm (hg b z hz)
  ·rw [if_neg ha] at hy
   by_cases hb : b = i
   ·rw [if_neg ha,if_pos hb] at e
    exact absurd e (hg a y hy)
   ·rw [if_neg hb] at hz
    rw [if_neg ha,if_neg hb] at e
    exact h.injF a b y z hy hz e
 injG a b y z hy hz ky kz e:=by
  rw [getK_put] at hy hz
  unfold upd at e
  by_cases ha : a = i
  ·by_cases hb : b = i
   ·rw [ha,hb]
   ·rw [if_neg hb] at hz
    rw [if_pos ha,if_neg hb] at e
    rw [if_pos ha] at hy
    injection hy with hy
    subst hy
    exact absurd e.symm ((hn ky).2 b z hz kz)
  ·rw [if_neg ha] at hy
   by_cases hb : b = i
   ·rw [if_neg ha,if_pos hb] at e
    rw [if_pos hb] at hz
    injection hz with hz
    subst hz
    exact absurd e ((hn kz).2 a y hy ky)
   ·rw [if_neg hb] at hz
    rw [if_neg ha,if_neg hb] at e
    exact h.injG a b y z hy hz ky kz e
end
end Go.Proofs.YtabdcphioccgnaaGreatDoor
