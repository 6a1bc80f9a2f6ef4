/- ShaTurn; ShaNew; ShaPad. -/
import Derived.Deep.CutBlock
import Derived.Laws.Tables
import Derived.Test.YtabdcphioccgnaaGreatDoorK02
import Derived.Test.YtabdcphioccgnaaGreatDoorK03
set_option maxRecDepth 100000
set_option maxHeartbeats 8000000
namespace Go.Proofs.YtabdcphioccgnaaGreatDoor
section
open Go.RowKit
theorem u8_wd (x : UInt8) : (x.toNat : Int) % 4294967296 = wd x.toUInt32:=by
 have:=x.toNat_lt
 unfold wd; rw [UInt8.toNat_toUInt32]; omega
theorem wd_shl8 (x : UInt32) : wd x * (256 : Int) % (4294967296 : Int) = wd (x <<< 8):=by
 have h:=wd_shl x 8 (by omega)
 rw [show ((2 ^ 8 : Nat) : Int) = (256 : Int) from rfl] at h
 exact h
theorem wd_shl16 (x : UInt32) : wd x * (65536 : Int) % (4294967296 : Int) = wd (x <<< 16):=by
 have h:=wd_shl x 16 (by omega)
 rw [show ((2 ^ 16 : Nat) : Int) = (65536 : Int) from rfl] at h
 exact h
theorem wd_shl24 (x : UInt32) : wd x * (16777216 : Int) % (4294967296 : Int) = wd (x <<< 24):=by
 have h:=wd_shl x 24 (by omega)
 rw [show ((2 ^ 24 : Nat) : Int) = (16777216 : Int) from rfl] at h
 exact h
theorem wd_zero_or (x : UInt32) : bits .or .u32 0 (wd x) = wd x:=by
 have:=wd_or 0 x
 rwa [UInt32.zero_or] at this
theorem load_any (b off cap len : Nat) (x0 x1 x2 x3 : UInt8) (w : World) (hl : 4 <= len)
  (h0 : w.cell? ⟨b,off,none⟩ = some (.int .u8 (x0.toNat : Int))) (h1 : w.cell? ⟨b,off + 1,none⟩ = some (.int .u8 (x1.toNat : Int)))
  (h2 : w.cell? ⟨b,off + 2,none⟩ = some (.int .u8 (x2.toNat : Int))) (h3 : w.cell? ⟨b,off + 3,none⟩ = some (.int .u8 (x3.toNat : Int))) :
  Calls Tryz.prog 276 #[.slice (some ⟨b,off,none⟩) len cap] w fun e w' => e = .returned (.int .u32 (wd (word x0 x1 x2 x3))) /\ w = w':=by
 have e3 : ((len : Int) == 3) = false:=by rw [beq_eq_false_iff_ne]; omega
 have e2 : ((len : Int) == 2) = false:=by rw [beq_eq_false_iff_ne]; omega
 have e1 : ((len : Int) == 1) = false:=by rw [beq_eq_false_iff_ne]; omega
 have e0 : ((len : Int) == 0) = false:=by rw [beq_eq_false_iff_ne]; omega
 go_enter Tryz.func276,Tryz.ntmps276
 go_wp2
 go_ret
 exact ⟨ret_int (by rw [u8_wd,u8_wd,u8_wd,u8_wd,wd_shl8,wd_shl16,wd_shl24,wd_zero_or,wd_or,wd_or,wd_or]; rfl),rfl⟩
theorem wp_tail {P : Program} {id : Nat} {Q : Exit -> Act -> World -> Prop} {a : Act} {w : World} {l : List Oper} (n : Nat) (hm : P.follows .mixedOrders = true) (hB : Region.lexTailB .any l.toArray n = true)
  (h : wpStill P l.toArray w.drew (fun a' => wpList P l.toArray Q (l.drop n) a' w.drew) (l.take n) a) : (Code.region id l.toArray true).wp P Q a w:=wp_region_still_tail n hm hB h
def uv (x : UInt32) : Value:=.int .u32 (wd x)
def SB (w : World) (g : Nat) (T : TypeId) (pre : List Value) (l : List UInt32) (post : List Value) : Prop :=
 w.heap[g]? = some (.cells (pre ++ (l.map uv ++ post)).toArray T (0,0))
theorem SB.lt {w : World} {g : Nat} {T : TypeId} {pre post : List Value} {l : List UInt32} (h : SB w g T pre l post) : g < w.heap.size:=(Array.getElem?_eq_some_iff.1 h).1
theorem SB.cell {w : World} {g : Nat} {T : TypeId} {pre post : List Value} {l : List UInt32} (h : SB w g T pre l post) (i : Nat) (hi : i < l.length) : w.cell? ⟨g,pre.length + i,none⟩ = some (.int .u32 (wd l[i])):=by
 unfold SB at h
 simp only [World.cell?,h]
 rw [List.getElem?_toArray,List.getElem?_append_right (by omega),Nat.add_sub_cancel_left,List.getElem?_append_left (by simpa using hi)]
 simp [hi,uv]
theorem SB.frozen {w : World} {g : Nat} {T : TypeId} {pre post : List Value} {l : List UInt32} (h : SB w g T pre l post) (i : Nat) : w.frozen? ⟨g,i,none⟩ = false:=by
 unfold SB at h
 simp [World.frozen?,h]
theorem SB.set {w : World} {g : Nat} {T : TypeId} {pre post : List Value} {l : List UInt32} (h : SB w g T pre l post) (i : Nat) (hi : i < l.length) (x : UInt32) : SB (w.setCell ⟨g,pre.length + i,none⟩ (.int .u32 (wd x))) g T pre (l.set i x) post:=by
 have h2:=cells_set (k:=pre.length + i) (y:=.int .u32 (wd x)) h
 unfold SB
 rw [h2]
 congr 2
 rw [List.setIfInBounds_toArray,List.set_append_right _ _ (by omega),Nat.add_sub_cancel_left,List.set_append_left _ _ (by simpa using hi),List.map_set]
 rfl
theorem SB.below {w w' : World} {g : Nat} {T : TypeId} {pre post : List Value} {l : List UInt32} (h : SB w g T pre l post) (hb : Below w.heap.size w w') : SB w' g T pre l post:=(hb.block g h.lt).trans h
theorem SB.far {w : World} {g Z k : Nat} {T : TypeId} {pre post : List Value} {l : List UInt32} {u : Value} (h : SB w g T pre l post) (hne : g ≠ Z) : SB (w.setCell ⟨Z,k,none⟩ u) g T pre l post:=cells_far h hne
theorem SB.drew {w : World} {g : Nat} {T : TypeId} {pre post : List Value} {l : List UInt32} (h : SB w g T pre l post) : SB w.drew g T pre l post:=h
def Wd (w : World) (g : Nat) (l : List UInt32) : Prop:=SB w g 344 [] l []
theorem Wd.cell {w : World} {g : Nat} {l : List UInt32} (h : Wd w g l) (i : Nat) (x : UInt32) (hi : l[i]? = some x) : w.cell? ⟨g,i,none⟩ = some (.int .u32 (wd x)):=by
 obtain ⟨hl,rfl⟩:=List.getElem?_eq_some_iff.1 hi
 have:=SB.cell h i hl
 rwa [List.length_nil,Nat.zero_add] at this
theorem Wd.set {w : World} {g : Nat} {l l' : List UInt32} (h : Wd w g l) (i : Nat) (hi : i < l.length) (x : UInt32) (hl : l.set i x = l') : Wd (w.setCell ⟨g,i,none⟩ (.int .u32 (wd x))) g l':=by
 have:=SB.set h i hi x
 rw [List.length_nil,Nat.zero_add,hl] at this
 exact this
theorem Wd.made (w : World) (b : List UInt8) : Wd (w.alloc (.cells #[.int .u32 0,.int .u32 0,.int .u32 0,.int .u32 0,.int .u32 0,.int .u32 0,.int .u32 0,.int .u32 0,.int .u32 0,.int .u32 0,.int .u32 0,.int .u32 0,.int .u32 0,.int .u32 0,.int .u32 0,.int .u32 0,.int .u32 0,.int .u32 0,.int .u32 0,.int .u32 0,.int .u32 0,.int .u32 0,.int .u32 0,.int .u32 0,.int .u32 0,.int .u32 0,.int .u32 0,.int .u32 0,.int .u32 0,.int .u32 0,.int .u32 0,.int .u32 0,.int .u32 0,.int .u32 0,.int .u32 0,.int .u32 0,.int .u32 0,.int .u32 0,.int .u32 0,.int .u32 0,.int .u32 0,.int .u32 0,.int .u32 0,.int .u32 0,.int .u32 0,.int .u32 0,.int .u32 0,.int .u32 0,.int .u32 0,.int .u32 0,.int .u32 0,.int .u32 0,.int .u32 0,.int .u32 0,.int .u32 0,.int .u32 0,.int .u32 0,.int .u32 0,.int .u32 0,.int .u32 0,.int .u32 0,.int .u32 0,.int .u32 0,.int .u32 0] 344)) w.heap.size (part64 b 0) :=
 (heap_alloc_new w _).trans rfl
def mixL (s r : S8) (i : Nat) : List UInt32:=(s.add r).list.take i ++ s.list.drop i
theorem mixL_full (s r : S8) : mixL s r 8 = (s.add r).list:=rfl
theorem mixL_at (s r : S8) (i : Nat) (h : i < 8) : ∃ x y,(mixL s r i)[i]? = some x /\ r.list[i]? = some y /\ (mixL s r i).set i (x + y) = mixL s r (i + 1):=by
 match i,h with
 | 0,_ => exact ⟨_,_,rfl,rfl,rfl⟩
 | 1,_ => exact ⟨_,_,rfl,rfl,rfl⟩
 | 2,_ => exact ⟨_,_,rfl,rfl,rfl⟩
 | 3,_ => exact ⟨_,_,rfl,rfl,rfl⟩
 | 4,_ => exact ⟨_,_,rfl,rfl,rfl⟩
 | 5,_ => exact ⟨_,_,rfl,rfl,rfl⟩
 | 6,_ => exact ⟨_,_,rfl,rfl,rfl⟩
 | 7,_ => exact ⟨_,_,rfl,rfl,rfl⟩
theorem turn_any (g : Nat) (T : TypeId) (pre post : List Value) (s : S8) (kb ko : Nat) (b off len cap : Nat) (xs : List UInt8) (w : World)
  (hs : SB w g T pre s.list post) (hK : ∀ i,i < 64 -> w.cell? ⟨kb,ko + i,none⟩ = some (.int .u32 (wd (KK.getD i 0)))) (hB : Bs w (some ⟨b,off,none⟩) len cap xs) (h64 : 64 <= len) :
  Calls Tryz.prog 257 #[.pointer (some ⟨g,pre.length,none⟩),.slice (some ⟨b,off,none⟩) len cap,.pointer (some ⟨kb,ko,none⟩)] w fun e w' => e = .returned (.tuple #[]) /\ SB w' g T pre (comp s xs).list post /\ Chg (fun k => k = g) w w':=by
 obtain ⟨B,hBz⟩:=qnm w.heap.size
 have hW0:=Wd.made w xs
 have hE0:=(Ext.refl w).alloc (.cells #[.int .u32 0,.int .u32 0,.int .u32 0,.int .u32 0,.int .u32 0,.int .u32 0,.int .u32 0,.int .u32 0,.int .u32 0,.int .u32 0,.int .u32 0,.int .u32 0,.int .u32 0,.int .u32 0,.int .u32 0,.int .u32 0,.int .u32 0,.int .u32 0,.int .u32 0,.int .u32 0,.int .u32 0,.int .u32 0,.int .u32 0,.int .u32 0,.int .u32 0,.int .u32 0,.int .u32 0,.int .u32 0,.int .u32 0,.int .u32 0,.int .u32 0,.int .u32 0,.int .u32 0,.int .u32 0,.int .u32 0,.int .u32 0,.int .u32 0,.int .u32 0,.int .u32 0,.int .u32 0,.int .u32 0,.int .u32 0,.int .u32 0,.int .u32 0,.int .u32 0,.int .u32 0,.int .u32 0,.int .u32 0,.int .u32 0,.int .u32 0,.int .u32 0,.int .u32 0,.int .u32 0,.int .u32 0,.int .u32 0,.int .u32 0,.int .u32 0,.int .u32 0,.int .u32 0,.int .u32 0,.int .u32 0,.int .u32 0,.int .u32 0,.int .u32 0] 344)
 rw [<- hBz] at hW0 hE0
 have HBZ:=qh hBz
 have hgB : g < B:=by rw [hBz]; exact hs.lt
 have hkB : kb < B:=by rw [hBz]; exact World.block_lt_of_cell? w _ (hK 0 (by omega))
 have hlc:=hB.2.1
 have hcm:=hB.2.2.1
 unfold maxLen at hcm
 have HX : Hid (b < B /\ ∀ i,i < 64 -> w.cell? ⟨b,off + i,none⟩ = some (.int .u8 ((xs.getD i 0).toNat : Int))):=by
  refine qh ?_
  have h1:=hB.1
  rcases hB.2.2.2 with h | ⟨b',off',h4,h5,h6⟩
  ·omega
  ·injection h4 with h4; injection h4 with e1 e2; subst e1 e2
   refine ⟨by rw [hBz]; exact h5,fun i hi => ?_⟩
   rw [h6 i (by omega),List.getD_eq_getElem?_getD,List.getElem?_eq_getElem (by omega)]
   rfl
 have HS:=qh hs
 have HK:=qh hK
 clear hs hK hB hBz
 go_enter Tryz.func257,Tryz.ntmps257
 go_upto_block 0 with fail
 rw [<- HBZ.out]
 generalize w.alloc (.cells #[.int .u32 0,.int .u32 0,.int .u32 0,.int .u32 0,.int .u32 0,.int .u32 0,.int .u32 0,.int .u32 0,.int .u32 0,.int .u32 0,.int .u32 0,.int .u32 0,.int .u32 0,.int .u32 0,.int .u32 0,.int .u32 0,.int .u32 0,.int .u32 0,.int .u32 0,.int .u32 0,.int .u32 0,.int .u32 0,.int .u32 0,.int .u32 0,.int .u32 0,.int .u32 0,.int .u32 0,.int .u32 0,.int .u32 0,.int .u32 0,.int .u32 0,.int .u32 0,.int .u32 0,.int .u32 0,.int .u32 0,.int .u32 0,.int .u32 0,.int .u32 0,.int .u32 0,.int .u32 0,.int .u32 0,.int .u32 0,.int .u32 0,.int .u32 0,.int .u32 0,.int .u32 0,.int .u32 0,.int .u32 0,.int .u32 0,.int .u32 0,.int .u32 0,.int .u32 0,.int .u32 0,.int .u32 0,.int .u32 0,.int .u32 0,.int .u32 0,.int .u32 0,.int .u32 0,.int .u32 0,.int .u32 0,.int .u32 0,.int .u32 0,.int .u32 0] 344) = w0 at *
 go_cut [6] (fun p wr => p = .pointer (some ⟨B,0,none⟩) /\ Wd wr B (part64 xs 16) /\ Ext B w wr)
 case first =>
  go_wp2_with fail
  go_loopw [26] (fun i wr => ∃ k : Nat,k <= 16 /\ i = .int .i64 k /\ Wd wr B (part64 xs k) /\ Ext B w wr) (fun i _ => 16 - (intOf i).toNat)
  case atStart => exact ⟨0,by omega,rfl,hW0,hE0⟩
  case round =>
   obtain ⟨k,hk,rfl,hW,hE⟩:=hrel
   clear hW0 hE0
   by_cases hlt : k < 16
   ·obtain ⟨hbB,hx⟩:=HX.out
    have q:=fun j (hj : k * 4 + j < 64) => (hE.1.cell (p:=⟨b,off + (k * 4 + j),none⟩) hbB).trans (hx (k * 4 + j) hj)
    have q0:=q 0 (by omega); have q1:=q 1 (by omega); have q2:=q 2 (by omega); have q3:=q 3 (by omega)
    simp only [<- Nat.add_assoc,Nat.add_zero] at q0 q1 q2 q3
    have HL:=qh (load_any b (off + k * 4) (cap - k * 4) (len - k * 4) _ _ _ _ wr (by omega) q0 q1 q2 q3)
    have hwa : word (xs.getD (k * 4) 0) (xs.getD (k * 4 + 1) 0) (xs.getD (k * 4 + 2) 0) (xs.getD (k * 4 + 3) 0) = wordAt xs k:=by
     unfold wordAt; rw [Nat.mul_comm]
    rw [hwa] at HL
    have hst:=part64_set xs k (by omega) (wordAt xs k) (by rw [if_pos hlt])
    have hW2:=hW.set k (by rw [part64_length _ _ (by omega)]; omega) _ hst
    have hE2:=hE.setCell (p:=⟨B,k,none⟩) (Nat.le_refl _) (.int .u32 (wd (wordAt xs k)))
    have hc:=hW.cell k 0 (by rw [part64,List.getElem?_append_right (by rw [sched_length]; omega),sched_length,Nat.sub_self,List.getElem?_replicate,if_pos (by omega)])
    have hf:=SB.frozen hW k
    have hck : k * 4 < cap:=by omega
    clear hx q q0 q1 q2 q3 hwa hst hbB hW
    go_wp2_with fail
    refine HL.out.mono ?_
    rintro e wq ⟨rfl,rfl⟩
    go_wp2_with fail
    go_roundw
    case rel => exact ⟨k + 1,by omega,by go_num,hW2,hE2⟩
    case measure => simp [intOf]; omega
   ·obtain rfl : k = 16:=by omega
    go_wp2_with fail
    go_meet
    exact ⟨rfl,hW,hE⟩
 case rest =>
  obtain ⟨rfl,hW,hE⟩:=hcut
  clear hW0 hE0
  go_upto_block 2 with fail
  go_cut [6] (fun p wr => p = .pointer (some ⟨B,0,none⟩) /\ Wd wr B (sched xs 64) /\ Ext B w wr)
  case first =>
   go_wp2_with fail
   go_loopw [8] (fun i wr => ∃ k : Nat,16 <= k /\ k <= 64 /\ i = .int .i64 k /\ Wd wr B (part64 xs k) /\ Ext B w wr) (fun i _ => 64 - (intOf i).toNat)
   case atStart => exact ⟨16,by omega,by omega,rfl,hW,hE⟩
   case round =>
    obtain ⟨k,hk16,hk,rfl,hk1,hk2⟩:=hrel
    clear hW hE
    by_cases hlt : k < 64
    ·have c15:=hk1.cell (k - 15) _ (part64_at xs k (k - 15) (by omega))
     have c2:=hk1.cell (k - 2) _ (part64_at xs k (k - 2) (by omega))
     have c16:=hk1.cell (k - 16) _ (part64_at xs k (k - 16) (by omega))
     have c7:=hk1.cell (k - 7) _ (part64_at xs k (k - 7) (by omega))
     have hst:=part64_set xs k (by omega) (nextW (sched xs k) k) (by rw [if_neg (by omega)])
     have hW2:=hk1.set k (by rw [part64_length _ _ (by omega)]; omega) _ hst
     have hE2:=hk2.setCell (p:=⟨B,k,none⟩) (Nat.le_refl _) (.int .u32 (wd (nextW (sched xs k) k)))
     rw [nextW_sched] at hW2 hE2
     have hc:=hk1.cell k 0 (by rw [part64,List.getElem?_append_right (by rw [sched_length]; omega),sched_length,Nat.sub_self,List.getElem?_replicate,if_pos (by omega)])
     have hf:=SB.frozen hk1 k
     clear hst hk1
     unfold sig0 sig1 at hW2 hE2
     generalize (sched xs k).getD (k - 15) 0 = x15 at *
     generalize (sched xs k).getD (k - 2) 0 = x2 at *
     generalize (sched xs k).getD (k - 16) 0 = x16 at *
     generalize (sched xs k).getD (k - 7) 0 = x7 at *
     have i15 : IntKind.i64.wrap ((k : Int) - 15) = (k : Int) - 15:=IntWalk.i64_in _ (by omega)
     have n15 : (0 : Int) <= (k : Int) - 15:=by omega
     have m15 : (k : Int) - 15 < 64:=by omega
     have o15 : (15 : Int) <= (k : Int):=by omega
     have p15 : (k : Int) < 79:=by omega
     have t15 : ((k : Int) - 15).toNat = k - 15:=by omega
     have i2 : IntKind.i64.wrap ((k : Int) - 2) = (k : Int) - 2:=IntWalk.i64_in _ (by omega)
     have n2 : (0 : Int) <= (k : Int) - 2:=by omega
     have m2 : (k : Int) - 2 < 64:=by omega
     have o2 : (2 : Int) <= (k : Int):=by omega
     have p2 : (k : Int) < 66:=by omega
     have t2 : ((k : Int) - 2).toNat = k - 2:=by omega
     have i16 : IntKind.i64.wrap ((k : Int) - 16) = (k : Int) - 16:=IntWalk.i64_in _ (by omega)
     have n16 : (0 : Int) <= (k : Int) - 16:=by omega
     have m16 : (k : Int) - 16 < 64:=by omega
     have o16 : (16 : Int) <= (k : Int):=by omega
     have p16 : (k : Int) < 80:=by omega
     have t16 : ((k : Int) - 16).toNat = k - 16:=by omega
     have i7 : IntKind.i64.wrap ((k : Int) - 7) = (k : Int) - 7:=IntWalk.i64_in _ (by omega)
     have n7 : (0 : Int) <= (k : Int) - 7:=by omega
     have m7 : (k : Int) - 7 < 64:=by omega
     have o7 : (7 : Int) <= (k : Int):=by omega
     have p7 : (k : Int) < 71:=by omega
     have t7 : ((k : Int) - 7).toNat = k - 7:=by omega
     go_upto_region 9 with fail
     go_region_held3 (fun w' => w'.cell? ⟨B,k - 15,none⟩ = some (.int .u32 (wd x15)) /\ w'.cell? ⟨B,k - 2,none⟩ = some (.int .u32 (wd x2))) (go_keep) (fail)
     go_wp2_with fail
     refine (rot_7 x15 _).mono ?_
     rintro e wq ⟨rfl,rfl⟩
     go_wp2_with fail
     refine (rot_18 x15 _).mono ?_
     rintro e wq ⟨rfl,rfl⟩
     go_wp2_with fail
     refine (rot_17 x2 _).mono ?_
     rintro e wq ⟨rfl,rfl⟩
     go_wp2_with fail
     refine (rot_19 x2 _).mono ?_
     rintro e wq ⟨rfl,rfl⟩
     have z16 : k - 16 ≠ k:=by omega
     have z7 : k - 7 ≠ k:=by omega
     go_upto_region 12 with fail
     refine wp_tail 15 (by kernel_rfl) (by kernel_rfl) ?_
     simp only [List.take_succ_cons,List.take_zero,List.drop_succ_cons,List.drop_zero]
     repeat still_step
     refine wpStill_nil ?_
     go_wp2_with fail
     go_roundw
     case rel => exact ⟨k + 1,by omega,by omega,by go_num,hW2.drew,hE2.drew.drew⟩
     case measure => simp [intOf]; omega
    ·obtain rfl : k = 64:=by omega
     rw [part64_full] at hk1
     go_wp2_with fail
     go_meet
     exact ⟨rfl,hk1,hk2⟩
  case rest =>
   obtain ⟨rfl,hW,hE⟩:=hcut
   have hg:=fun j (hj : j < 8) => (hE.1.cell (p:=⟨g,pre.length + j,none⟩) hgB).trans (HS.out.cell j hj)
   have g0:=hg 0 (by omega); have g1:=hg 1 (by omega); have g2:=hg 2 (by omega); have g3:=hg 3 (by omega)
   have g4:=hg 4 (by omega); have g5:=hg 5 (by omega); have g6:=hg 6 (by omega); have g7:=hg 7 (by omega)
   rw [Nat.add_zero] at g0
   simp only [S8.list,List.getElem_cons_zero,List.getElem_cons_succ] at g0 g1 g2 g3 g4 g5 g6 g7
   have hBw:=hE.2
   have hgw : g < wc.heap.size:=by omega
   clear hg
   go_upto_region 13 with fail
   refine wp_region_over (by kernel_rfl) (by kernel_rfl) ?_
   repeat (go_big_quiet_step (fail))
   refine wpQuiet_nil ?_
   rintro _ ⟨nq,rfl⟩
   have hE:=hE.step (below_over wc nq)
   have hW:=SB.below hW (below_over wc nq)
   generalize World.over wc nq = w2 at *
   clear g0 g1 g2 g3 g4 g5 g6 g7 hBw hgw
   go_upto_block 4 with fail
   go_cut [13,14,15,16,17,18,19,20] (fun a1 a2 a3 a4 a5 a6 a7 a8 wr => ∃ r : S8,r = rnds xs s 64 /\ a1 = .int .u32 (wd r.a) /\ a2 = .int .u32 (wd r.b) /\ a3 = .int .u32 (wd r.c) /\ a4 = .int .u32 (wd r.d) /\ a5 = .int .u32 (wd r.e) /\ a6 = .int .u32 (wd r.f) /\ a7 = .int .u32 (wd r.g) /\ a8 = .int .u32 (wd r.h) /\ Ext B w wr)
   case first =>
    go_wp2_with fail
    go_loopw [13,14,15,16,17,18,19,20,112] (fun a1 a2 a3 a4 a5 a6 a7 a8 i wr => ∃ (k : Nat) (r : S8),k <= 64 /\ i = .int .i64 k /\ r = rnds xs s k /\ a1 = .int .u32 (wd r.a) /\ a2 = .int .u32 (wd r.b) /\ a3 = .int .u32 (wd r.c) /\ a4 = .int .u32 (wd r.d) /\ a5 = .int .u32 (wd r.e) /\ a6 = .int .u32 (wd r.f) /\ a7 = .int .u32 (wd r.g) /\ a8 = .int .u32 (wd r.h) /\ Wd wr B (sched xs 64) /\ Ext B w wr) (fun _ _ _ _ _ _ _ _ i _ => 64 - (intOf i).toNat)
    case atStart => exact ⟨0,s,by omega,rfl,rfl,rfl,rfl,rfl,rfl,rfl,rfl,rfl,rfl,hW,hE⟩
    case round =>
     obtain ⟨k,r,hk,rfl,hr,rfl,rfl,rfl,rfl,rfl,rfl,rfl,rfl,hk1,hk2⟩:=hrel
     have HR:=qh hr
     clear hr hW hE
     by_cases hlt : k < 64
     ·have cW:=hk1.cell k ((sched xs 64).getD k 0) (by rw [List.getD_eq_getElem?_getD,List.getElem?_eq_getElem (by rw [sched_length]; omega)]; rfl)
      have cK:=(hk2.1.cell (p:=⟨kb,ko + k,none⟩) hkB).trans (HK.out k hlt)
      have hrn : r.rnd (KK.getD k 0) ((sched xs 64).getD k 0) = rnds xs s (k + 1):=by rw [HR.out]; rfl
      generalize (sched xs 64).getD k 0 = W at *
      generalize KK.getD k 0 = Kx at *
      have HRN:=qh hrn
      have hBw:=SB.lt hk1
      have hkw : kb < wr.heap.size:=by omega
      clear hrn
      obtain ⟨ra,rb,rc,rd,re,rf,rg,rh⟩:=r
      simp only at *
      go_upto_region 17 with fail
      refine wp_region_over (by kernel_rfl) (by kernel_rfl) ?_
      repeat (go_big_quiet_step ((go_at_call 277; first | (with_reducible apply orot_6) | (with_reducible apply orot_11) | (with_reducible apply orot_25))))
      refine wpQuiet_nil ?_
      rintro _ ⟨nq,rfl⟩
      have hk3:=SB.below hk1 (below_over wr nq)
      have hE3:=hk2.step (below_over wr nq)
      generalize World.over wr nq = w3 at *
      clear hk1 hk2 cW cK hBw hkw
      go_wp2_with fail
      refine (rot_2 ra _).mono ?_
      rintro e wq ⟨rfl,rfl⟩
      go_wp2_with fail
      refine (rot_13 ra _).mono ?_
      rintro e wq ⟨rfl,rfl⟩
      go_wp2_with fail
      refine (rot_22 ra _).mono ?_
      rintro e wq ⟨rfl,rfl⟩
      go_wp2_with fail
      go_roundw
      case rel => exact ⟨k + 1,(⟨ra,rb,rc,rd,re,rf,rg,rh⟩ : S8).rnd Kx W,by omega,by go_num,HRN.out,rfl,rfl,rfl,rfl,rfl,rfl,rfl,rfl,hk3,hE3⟩
      case measure => simp [intOf]; omega
     ·obtain rfl : k = 64:=by omega
      go_wp2_with fail
      go_meet
      exact ⟨r,HR.out,rfl,rfl,rfl,rfl,rfl,rfl,rfl,rfl,hk2⟩
   case rest =>
    obtain ⟨r,hr,rfl,rfl,rfl,rfl,rfl,rfl,rfl,rfl,hE⟩:=hcut
    have hcomp : comp s xs = s.add r:=by rw [hr]; rfl
    have HC:=qh hcomp
    clear hr hcomp hW
    have hS0 : SB wc g T pre s.list post:=(hE.1.block g hgB).trans HS.out
    have hS1:=SB.below hS0 ((Below.refl _ _).alloc (Nat.le_refl _) (.cells #[.int .u32 (wd r.a),.int .u32 (wd r.b),.int .u32 (wd r.c),.int .u32 (wd r.d),.int .u32 (wd r.e),.int .u32 (wd r.f),.int .u32 (wd r.g),.int .u32 (wd r.h)] 165))
    have hR1 : SB (wc.alloc (.cells #[.int .u32 (wd r.a),.int .u32 (wd r.b),.int .u32 (wd r.c),.int .u32 (wd r.d),.int .u32 (wd r.e),.int .u32 (wd r.f),.int .u32 (wd r.g),.int .u32 (wd r.h)] 165)) wc.heap.size 165 [] r.list []:=heap_alloc_new wc _
    have hE1:=hE.alloc (.cells #[.int .u32 (wd r.a),.int .u32 (wd r.b),.int .u32 (wd r.c),.int .u32 (wd r.d),.int .u32 (wd r.e),.int .u32 (wd r.f),.int .u32 (wd r.g),.int .u32 (wd r.h)] 165)
    obtain ⟨R,hR⟩:=qnm wc.heap.size
    have hgR : g ≠ R:=by have:=hE.2; omega
    rw [<- hR] at hR1
    have HRz:=qh hR
    have hch : Chg (fun q => q = g) w (wc.alloc (.cells #[.int .u32 (wd r.a),.int .u32 (wd r.b),.int .u32 (wd r.c),.int .u32 (wd r.d),.int .u32 (wd r.e),.int .u32 (wd r.f),.int .u32 (wd r.g),.int .u32 (wd r.h)] 165)):=by
     refine Chg.of_below ?_ _
     rw [<- HBZ.out]; exact hE1.1
    clear hR hS0 hE1 hE
    go_upto_block 6 with fail
    rw [<- HRz.out]
    generalize wc.alloc (.cells #[.int .u32 (wd r.a),.int .u32 (wd r.b),.int .u32 (wd r.c),.int .u32 (wd r.d),.int .u32 (wd r.e),.int .u32 (wd r.f),.int .u32 (wd r.g),.int .u32 (wd r.h)] 165) = w0 at *
    go_wp2_with fail
    go_loopw [187] (fun i wr => ∃ k : Nat,k <= 8 /\ i = .int .i64 k /\ SB wr g T pre (mixL s r k) post /\ SB wr R 165 [] r.list [] /\ Chg (fun q => q = g) w wr) (fun i _ => 8 - (intOf i).toNat)
    case atStart => exact ⟨0,by omega,rfl,hS1,hR1,hch⟩
    case round =>
     obtain ⟨k,hk,rfl,k1,k2,k3⟩:=hrel
     clear hS1 hR1 hch
     by_cases hlt : k < 8
     ·obtain ⟨x,y,hx,hy,hset⟩:=mixL_at s r k hlt
      obtain ⟨hxl,hxe⟩:=List.getElem?_eq_some_iff.1 hx
      obtain ⟨hyl,hye⟩:=List.getElem?_eq_some_iff.1 hy
      have c1:=SB.cell k1 k hxl
      have c2:=SB.cell k2 k hyl
      rw [hxe] at c1
      rw [hye,List.length_nil,Nat.zero_add] at c2
      have f1:=SB.frozen k1 (pre.length + k)
      have s1:=SB.set k1 k hxl (x + y)
      rw [hset] at s1
      have s2:=SB.far (Z:=g) (k:=pre.length + k) (u:=.int .u32 (wd (x + y))) k2 (Ne.symm hgR)
      have s3:=k3.setCell (p:=⟨g,pre.length + k,none⟩) (fun _ => rfl) (.int .u32 (wd (x + y)))
      have e1 : (0 : Int) <= (k : Int):=by omega
      have e2 : (k : Int) < 8:=by omega
      clear hx hy hset hxl hxe hyl hye k1 k2 k3
      go_upto_region 24 with fail
      refine wp_tail 9 (by kernel_rfl) (by kernel_rfl) ?_
      simp only [List.take_succ_cons,List.take_zero,List.drop_succ_cons,List.drop_zero]
      repeat still_step
      refine wpStill_nil ?_
      go_wp2_with fail
      go_roundw
      case rel => exact ⟨k + 1,by omega,by go_num,s1.drew,s2.drew,s3.drew⟩
      case measure => simp [intOf]; omega
     ·obtain rfl : k = 8:=by omega
      rw [mixL_full,<- HC.out] at k1
      go_wp2_with fail
      go_end0
      exact ⟨rfl,k1,k3⟩
abbrev T64 : TypeId:=344
abbrev T8 : TypeId:=342
abbrev TSm : TypeId:=347
theorem wpList_build_to {P : Program} {ops : Array Oper} {rest : List Oper} {o : Oper} {a : Act} {w : World} {Q : Exit -> Act -> World -> Prop} (hg : o.guard = none) (t : TypeId) (parts : Array (Nat × Operand)) (ho : o.op = .build t parts) (v : Array Value)
  (hf : P.built t (parts.map fun (i,x) => (i,a.eval x)).toList = some v) (h : wpList P ops Q rest (a.put o.dst (.agg v)) w) : wpList P ops Q (o :: rest) a w :=
 wpList_build hg t parts ho (by rw [hf]; rfl) (by rw [hf]; exact h)
def KV : Array Value:=(KK.map uv).toArray
def BV : Array Value:=(begunS.list.map uv).toArray
theorem Ext.setRow {B : Nat} {a w : World} (h : Ext B a w) {g : Nat} (hg : B <= g) (cs : Array Value) : Ext B a (w.setRow g cs) :=
 ⟨h.1.trans (c:=w.setRow g cs) ⟨rfl,rfl,rfl,by simp,fun k hk => setRow_other w g k _ (by omega)⟩,by have:=h.2; simp; omega⟩
theorem constants_any (w : World) :
  Calls Tryz.prog 256 #[] w fun e w' => e = .returned (.agg KV) /\ Below w.heap.size w w':=by
 have hz:=heap_alloc_new w (.cells #[.int .u32 0,.int .u32 0,.int .u32 0,.int .u32 0,.int .u32 0,.int .u32 0,.int .u32 0,.int .u32 0,.int .u32 0,.int .u32 0,.int .u32 0,.int .u32 0,.int .u32 0,.int .u32 0,.int .u32 0,.int .u32 0,.int .u32 0,.int .u32 0,.int .u32 0,.int .u32 0,.int .u32 0,.int .u32 0,.int .u32 0,.int .u32 0,.int .u32 0,.int .u32 0,.int .u32 0,.int .u32 0,.int .u32 0,.int .u32 0,.int .u32 0,.int .u32 0,.int .u32 0,.int .u32 0,.int .u32 0,.int .u32 0,.int .u32 0,.int .u32 0,.int .u32 0,.int .u32 0,.int .u32 0,.int .u32 0,.int .u32 0,.int .u32 0,.int .u32 0,.int .u32 0,.int .u32 0,.int .u32 0,.int .u32 0,.int .u32 0,.int .u32 0,.int .u32 0,.int .u32 0,.int .u32 0,.int .u32 0,.int .u32 0,.int .u32 0,.int .u32 0,.int .u32 0,.int .u32 0,.int .u32 0,.int .u32 0,.int .u32 0,.int .u32 0] 344)
 have hE:=(Ext.refl w).alloc (.cells #[.int .u32 0,.int .u32 0,.int .u32 0,.int .u32 0,.int .u32 0,.int .u32 0,.int .u32 0,.int .u32 0,.int .u32 0,.int .u32 0,.int .u32 0,.int .u32 0,.int .u32 0,.int .u32 0,.int .u32 0,.int .u32 0,.int .u32 0,.int .u32 0,.int .u32 0,.int .u32 0,.int .u32 0,.int .u32 0,.int .u32 0,.int .u32 0,.int .u32 0,.int .u32 0,.int .u32 0,.int .u32 0,.int .u32 0,.int .u32 0,.int .u32 0,.int .u32 0,.int .u32 0,.int .u32 0,.int .u32 0,.int .u32 0,.int .u32 0,.int .u32 0,.int .u32 0,.int .u32 0,.int .u32 0,.int .u32 0,.int .u32 0,.int .u32 0,.int .u32 0,.int .u32 0,.int .u32 0,.int .u32 0,.int .u32 0,.int .u32 0,.int .u32 0,.int .u32 0,.int .u32 0,.int .u32 0,.int .u32 0,.int .u32 0,.int .u32 0,.int .u32 0,.int .u32 0,.int .u32 0,.int .u32 0,.int .u32 0,.int .u32 0,.int .u32 0] 344)
 obtain ⟨G,hG⟩:=qnm w.heap.size
 rw [<- hG] at hz hE ⊢
 have HG:=qh hG
 have HZ:=qh hz
 clear hz hG
 go_enter Tryz.func256,Tryz.ntmps256
 go_upto_region 1 with fail
 rw [<- HG.out]
 generalize w.alloc (.cells #[.int .u32 0,.int .u32 0,.int .u32 0,.int .u32 0,.int .u32 0,.int .u32 0,.int .u32 0,.int .u32 0,.int .u32 0,.int .u32 0,.int .u32 0,.int .u32 0,.int .u32 0,.int .u32 0,.int .u32 0,.int .u32 0,.int .u32 0,.int .u32 0,.int .u32 0,.int .u32 0,.int .u32 0,.int .u32 0,.int .u32 0,.int .u32 0,.int .u32 0,.int .u32 0,.int .u32 0,.int .u32 0,.int .u32 0,.int .u32 0,.int .u32 0,.int .u32 0,.int .u32 0,.int .u32 0,.int .u32 0,.int .u32 0,.int .u32 0,.int .u32 0,.int .u32 0,.int .u32 0,.int .u32 0,.int .u32 0,.int .u32 0,.int .u32 0,.int .u32 0,.int .u32 0,.int .u32 0,.int .u32 0,.int .u32 0,.int .u32 0,.int .u32 0,.int .u32 0,.int .u32 0,.int .u32 0,.int .u32 0,.int .u32 0,.int .u32 0,.int .u32 0,.int .u32 0,.int .u32 0,.int .u32 0,.int .u32 0,.int .u32 0,.int .u32 0] 344) = w0 at *
 go_wp2_with (first | (refine wpList_build_to rfl T64 _ rfl KV (by kernel_rfl) ?_) | (refine wpList_store_row rfl T64 _ _ rfl G KV rfl rfl T64 _ HZ.out (by kernel_rfl) (by kernel_rfl) (by kernel_rfl) ?_))
 refine bodyPost_ret (v:=.agg KV) ?_ rfl ⟨rfl,?_⟩
 ·exact results_cell_row rfl _ _ G T64 _ (0,0) _ rfl (setRow_heap w0 G _ _ T64 (0,0) HZ.out) Tryz.underlying344 rfl (by kernel_rfl)
 ·exact (hE.setRow (Nat.le_refl _) _).1
theorem begun_any (w : World) :
  Calls Tryz.prog 255 #[] w fun e w' => e = .returned (.agg BV) /\ Below w.heap.size w w':=by
 have hz:=heap_alloc_new w (.cells #[.int .u32 0,.int .u32 0,.int .u32 0,.int .u32 0,.int .u32 0,.int .u32 0,.int .u32 0,.int .u32 0] 342)
 have hE:=(Ext.refl w).alloc (.cells #[.int .u32 0,.int .u32 0,.int .u32 0,.int .u32 0,.int .u32 0,.int .u32 0,.int .u32 0,.int .u32 0] 342)
 obtain ⟨G,hG⟩:=qnm w.heap.size
 rw [<- hG] at hz hE ⊢
 have HG:=qh hG
 have HZ:=qh hz
 clear hz hG
 go_enter Tryz.func255,Tryz.ntmps255
 go_upto_region 1 with fail
 rw [<- HG.out]
 generalize w.alloc (.cells #[.int .u32 0,.int .u32 0,.int .u32 0,.int .u32 0,.int .u32 0,.int .u32 0,.int .u32 0,.int .u32 0] 342) = w0 at *
 go_wp2_with (first | (refine wpList_build_to rfl T8 _ rfl BV (by kernel_rfl) ?_) | (refine wpList_store_row rfl T8 _ _ rfl G BV rfl rfl T8 _ HZ.out (by kernel_rfl) (by kernel_rfl) (by kernel_rfl) ?_))
 refine bodyPost_ret (v:=.agg BV) ?_ rfl ⟨rfl,?_⟩
 ·exact results_cell_row rfl _ _ G T8 _ (0,0) _ rfl (setRow_heap w0 G _ _ T8 (0,0) HZ.out) Tryz.underlying342 rfl (by kernel_rfl)
 ·exact (hE.setRow (Nat.le_refl _) _).1
def Strm (w : World) (B p : Nat) (g : Option Nat) (xs : List UInt8) : Prop :=
 B <= p /\ ∃ v,SB w p 347 [] (hashed xs).list (KK.map uv ++ [v,.int .i64 (xs.length : Int)]) /\ Own w B v (held xs) /\ v.ownBlock = g /\ g ≠ some p
theorem shanew_any (w : World) :
  Calls Tryz.prog 217 #[] w fun e w' => ∃ p,e = .returned (.pointer (some ⟨p,0,none⟩)) /\ Strm w' w.heap.size p none [] /\ Below w.heap.size w w':=by
 go_enter Tryz.func217,Tryz.ntmps217
 go_wp2_with fail
 refine (begun_any _).mono ?_
 rintro e w1 ⟨rfl,hb1⟩
 go_wp2_with fail
 refine (constants_any _).mono ?_
 rintro e w2 ⟨rfl,hb2⟩
 go_wp2_with (first | (refine wpList_build_to rfl TSm _ rfl (BV ++ (KV ++ #[.slice none 0 0,.int .i64 0])) (by kernel_rfl) ?_))
 go_ret
 have hE:=(((Ext.refl w).step hb1).step hb2).alloc (.cells (BV ++ (KV ++ #[.slice none 0 0,.int .i64 0])) 347)
 refine ⟨w2.heap.size,rfl,⟨?_,.slice none 0 0,?_,Own.nil _ _,rfl,by simp⟩,hE.1⟩
 ·exact (((Ext.refl w).step hb1).step hb2).2
 ·refine (heap_alloc_new w2 _).trans ?_
  congr 2
theorem lt_new (w : World) (o : Obj) : w.heap.size < (w.alloc o).heap.size:=by simp
theorem Bs.one (w : World) (x : UInt8) : Bs (w.alloc (.cells #[.int .u8 (x.toNat : Int)] TB)) (some ⟨w.heap.size,0,none⟩) 1 1 [x] :=
 Bs.newRow w _ TB (0,0) 1 1 [x] rfl (Nat.le_refl _) (by simp [maxLen]) rfl
theorem append_byte {w W : World} {B : Nat} {v : Value} {xs : List UInt8} (hE : Ext B w W) (h : Own W B v xs) (b : Int) (x : UInt8) (hb : b = (x.toNat : Int)) (hl : xs.length <= 2000000) {ops : Array Oper} {rest : List Oper} {o : Oper} {a : Act} {Q : Exit -> Act -> World -> Prop} (hgd : o.guard = none) (s y : Operand)
  (ho : o.op = .call { callee:=.builtin .append,args:=#[s,y],argTypes:=#[30,30] }) (hs : a.eval s = v) (hy : a.eval y = .slice (some ⟨W.heap.size,0,none⟩) 1 1)
  (hh : ∀ v' W',Ext B w W' -> Own W' B v' (xs ++ [x]) -> Chg (fun k => v.ownBlock = some k) W W' -> wpList Tryz.prog ops Q rest (a.put o.dst v') W') : wpList Tryz.prog ops Q (o :: rest) a (W.alloc (.cells #[.int .u8 b] TB)):=by
 subst hb
 refine wpList_append_bytes hgd s y ho B v xs hs (h.alloc _) _ 1 1 [x] hy (Bs.one W x) (by omega) (by have:=hE.2; simp; omega) fun v' W' h1 h2 _ => hh v' W' ?_ h1 ?_
 ·exact (hE.alloc _).grown h2 (fun k hk => (World.ownsRow.lt h k hk).1)
 ·exact ((Chg.refl _ W).alloc _).grown h2 (fun k _ hk => hk)
def padZ (xs : List UInt8) (k : Nat) : List UInt8:=xs ++ [0x80] ++ List.replicate k 0
theorem padZ_zero (xs : List UInt8) : xs ++ [0x80] = padZ xs 0:=by simp [padZ]
theorem padZ_succ (xs : List UInt8) (k : Nat) : padZ xs k ++ [0] = padZ xs (k + 1):=by
 unfold padZ; rw [List.append_assoc _ (List.replicate k 0),<- List.replicate_succ']
theorem padZ_length (xs : List UInt8) (k : Nat) : (padZ xs k).length = xs.length + 1 + k:=by simp [padZ]; omega
theorem be8_take (n j : Nat) (h : j < 8) : (padTo.be8 n).take (j + 1) = (padTo.be8 n).take j ++ [(padTo.be8 n).getD j 0]:=by
 match j,h with
 | 0,_ => rfl
 | 1,_ => rfl
 | 2,_ => rfl
 | 3,_ => rfl
 | 4,_ => rfl
 | 5,_ => rfl
 | 6,_ => rfl
 | 7,_ => rfl
theorem padTo_eq (xs : List UInt8) (n Z : Nat) (h : Z = (119 - xs.length % 64) % 64) : padTo xs n = padZ xs Z ++ (padTo.be8 n).take 8:=by subst h; rfl
theorem padTo_pos (xs : List UInt8) (n : Nat) : 0 < (padTo xs n).length:=by simp [padTo]; omega
theorem u8_of (n : Nat) : ((UInt8.ofNat n).toNat : Int) = (n : Int) % 256:=by rw [UInt8.toNat_ofNat']; omega
end
end Go.Proofs.YtabdcphioccgnaaGreatDoor
