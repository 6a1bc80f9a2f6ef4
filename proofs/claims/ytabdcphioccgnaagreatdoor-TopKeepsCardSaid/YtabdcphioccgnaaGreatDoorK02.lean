/- LayPlan; LayRef; ShaW; ShaLaw; MerkLaw; Bmap. -/
import Derived.Laws.BitsAllLaws
import Derived.Test.YtabdcphioccgnaaGreatDoorK01
set_option maxRecDepth 100000
set_option maxHeartbeats 8000000
namespace Go.Proofs.YtabdcphioccgnaaGreatDoor
section
open Go.RowKit
def isPlan (s p g : Int) : Prop:=64 <= s /\ s <= 4096 /\ p = s / 4 /\ g = seg s
theorem isPlan.bd {s p g : Int} (h : isPlan s p g) : 16 <= p /\ p <= 1024 /\ 3 <= g /\ g <= 4096:=by
 obtain ⟨h1,h2,rfl,rfl⟩:=h
 have:=seg_bd s h1 h2
 omega
theorem right_ok (s p g : Int) (w : World) (h : isPlan s p g) :
  Calls Tryz.prog 158 #[.agg #[.int .i64 s,.int .i64 p,.int .i64 g]] w fun e w' => e = .returned (.bool true) /\ Below w.heap.size w w':=by
 obtain ⟨h1,h2,rfl,rfl⟩:=h
 go_enter Tryz.func158,Tryz.ntmps158
 go_wp2_with fail
 refine (of_ok s _ h1 h2).mono ?_
 rintro e w1 ⟨rfl,hb1⟩
 obtain ⟨hc1,hf1⟩:=bcell hb1
 have hz1 : w.heap.size < w1.heap.size:=by have:=hb1.size; simp at this; omega
 go_wp2_with fail
 go_ret
 exact ⟨rfl,((((Ext.refl w).alloc _).step hb1).alloc _).1⟩
theorem right_no (s p g : Int) (w : World) (h : ¬ isPlan s p g) :
  Calls Tryz.prog 158 #[.agg #[.int .i64 s,.int .i64 p,.int .i64 g]] w fun e w' => e = .returned (.bool false) /\ Below w.heap.size w w':=by
 by_cases hs : s < 64 ∨ 4096 < s
 ·go_enter Tryz.func158,Tryz.ntmps158
  go_wp2_with fail
  refine (of_bad s _ hs).mono ?_
  rintro e w1 ⟨rfl,hb1⟩
  obtain ⟨hc1,hf1⟩:=bcell hb1
  have hz1 : w.heap.size < w1.heap.size:=by have:=hb1.size; simp at this; omega
  go_wp2_with fail
  go_ret
  exact ⟨rfl,((((Ext.refl w).alloc _).step hb1).alloc _).1⟩
 ·have h1 : 64 <= s:=by omega
  have h2 : s <= 4096:=by omega
  have hd : (p == s / 4) = false ∨ ((p == s / 4) = true /\ (g == seg s) = false):=by
   simp only [beq_iff_eq,beq_eq_false_iff_ne]
   unfold isPlan at h
   omega
  clear h hs
  rcases hd with hd | ⟨hd,he⟩
  ·go_enter Tryz.func158,Tryz.ntmps158
   go_wp2_with fail
   refine (of_ok s _ h1 h2).mono ?_
   rintro e w1 ⟨rfl,hb1⟩
   obtain ⟨hc1,hf1⟩:=bcell hb1
   have hz1 : w.heap.size < w1.heap.size:=by have:=hb1.size; simp at this; omega
   go_wp2_with fail
   go_ret
   exact ⟨rfl,((((Ext.refl w).alloc _).step hb1).alloc _).1⟩
  ·go_enter Tryz.func158,Tryz.ntmps158
   go_wp2_with fail
   refine (of_ok s _ h1 h2).mono ?_
   rintro e w1 ⟨rfl,hb1⟩
   obtain ⟨hc1,hf1⟩:=bcell hb1
   have hz1 : w.heap.size < w1.heap.size:=by have:=hb1.size; simp at this; omega
   go_wp2_with fail
   go_ret
   exact ⟨rfl,((((Ext.refl w).alloc _).step hb1).alloc _).1⟩
theorem point_ok (s p g k : Int) (w : World) (h : isPlan s p g) (h0 : 0 <= k) (h1 : k < 2) :
  Calls Tryz.prog 97 #[.agg #[.int .i64 s,.int .i64 p,.int .i64 g],.int .i64 k] w fun e w' => e = .returned (.tuple #[.int .i64 (1 + k * p),.int .i64 0]) /\ Below w.heap.size w w':=by
 have hb:=h.bd
 obtain ⟨hb1,hb2,_,_⟩:=hb
 have h1' : decide (2 <= k) = false:=by simp; omega
 have hm : k * p <= 1024 /\ 0 <= k * p:=by
  rcases (show k = 0 ∨ k = 1 by omega) with rfl | rfl <;> omega
 obtain ⟨hm1,hm2⟩:=hm
 go_enter Tryz.func97,Tryz.ntmps97
 go_wp2_with fail
 refine (right_ok s p g _ h).mono ?_
 rintro e w1 ⟨rfl,hbw⟩
 obtain ⟨hc1,hf1⟩:=bcell hbw
 go_wp2_with fail
 go_ret2
 exact ⟨rfl,(((Ext.refl w).alloc _).step hbw).1⟩
theorem segment_ok (s p g i : Int) (w : World) (h : isPlan s p g) (h0 : 0 <= i) (h1 : i < g) :
  Calls Tryz.prog 143 #[.agg #[.int .i64 s,.int .i64 p,.int .i64 g],.int .i64 i] w fun e w' => e = .returned (.tuple #[.int .i64 (1 + 2 * p + i * 8),.int .i64 0]) /\ Below w.heap.size w w':=by
 have hb:=h.bd
 obtain ⟨hb1,hb2,hb3,hb4⟩:=hb
 have h1' : decide (g <= i) = false:=by simp; omega
 go_enter Tryz.func143,Tryz.ntmps143
 go_wp2_with fail
 refine (right_ok s p g _ h).mono ?_
 rintro e w1 ⟨rfl,hbw⟩
 obtain ⟨hc1,hf1⟩:=bcell hbw
 go_wp2_with fail
 go_ret2
 exact ⟨rfl,(((Ext.refl w).alloc _).step hbw).1⟩
theorem rof_any (n : Int) (w : World) :
  Calls Tryz.prog 12 #[.int .i64 n] w fun e w' => e = .returned (ofV n) /\ Below w.heap.size w w':=by
 by_cases h1 : n < 64
 ·go_enter Tryz.func12,Tryz.ntmps12
  go_wp2
  exact bodyPost_ret (v:=.tuple #[.agg #[.int .i64 0,.int .i64 0,.int .i64 0],.int .i64 1]) (by simp [results,Tryz.results12,go_sem]) rfl ⟨by simp [ofV,h1],(Below.refl _ _).alloc (Nat.le_refl _) _⟩
 by_cases h2 : 4096 < n
 ·go_enter Tryz.func12,Tryz.ntmps12
  go_wp2
  exact bodyPost_ret (v:=.tuple #[.agg #[.int .i64 0,.int .i64 0,.int .i64 0],.int .i64 1]) (by simp [results,Tryz.results12,go_sem]) rfl ⟨by simp [ofV,h2],(Below.refl _ _).alloc (Nat.le_refl _) _⟩
 ·go_enter Tryz.func12,Tryz.ntmps12
  go_wp2
  exact bodyPost_ret (v:=.tuple #[.agg #[.int .i64 n,.int .i64 (n / 4),.int .i64 (seg n)],.int .i64 0]) (by simp [results,Tryz.results12,go_sem,seg]) rfl ⟨by simp [ofV,h1,h2],(Below.refl _ _).alloc (Nat.le_refl _) _⟩
theorem rof_bad (n : Int) (w : World) (h : n < 64 ∨ 4096 < n) :
  Calls Tryz.prog 12 #[.int .i64 n] w fun e w' => e = .returned (.tuple #[.agg #[.int .i64 0,.int .i64 0,.int .i64 0],.int .i64 1]) /\ Below w.heap.size w w' :=
 (rof_any n w).mono fun _ _ ⟨h1,h2⟩ => ⟨by rw [h1,ofV,if_pos h],h2⟩
theorem rof_ok (n : Int) (w : World) (h1 : 64 <= n) (h2 : n <= 4096) :
  Calls Tryz.prog 12 #[.int .i64 n] w fun e w' => e = .returned (.tuple #[.agg #[.int .i64 n,.int .i64 (n / 4),.int .i64 (seg n)],.int .i64 0]) /\ Below w.heap.size w w' :=
 (rof_any n w).mono fun _ _ ⟨h3,h4⟩ => ⟨by rw [h3,ofV,if_neg (by omega)],h4⟩
def wd (x : UInt32) : Int:=(x.toNat : Int)
@[simp,go_sem] theorem wd_xor (x y : UInt32) : bits .xor .u32 (wd x) (wd y) = wd (x ^^^ y):=by
 unfold wd; rw [u32_xor_nat _ _ x.toNat_lt y.toNat_lt,UInt32.toNat_xor]
@[simp,go_sem] theorem wd_and (x y : UInt32) : bits .and .u32 (wd x) (wd y) = wd (x &&& y):=by
 unfold wd; rw [u32_and_nat _ _ x.toNat_lt y.toNat_lt,UInt32.toNat_and]
@[simp,go_sem] theorem wd_or (x y : UInt32) : bits .or .u32 (wd x) (wd y) = wd (x ||| y):=by
 unfold wd; rw [u32_or_nat _ _ x.toNat_lt y.toNat_lt,UInt32.toNat_or]
@[simp,go_sem] theorem wd_not (x : UInt32) : bits .xor .u32 4294967295 (wd x) = wd (~~~x):=by
 have h:=u32_xor_nat 4294967295 x.toNat (by omega) x.toNat_lt
 unfold wd
 have e : ((4294967295 : Nat) : Int) = 4294967295:=rfl
 rw [<- e,h,UInt32.toNat_not]
 congr 1
 have:=x.toNat_lt
 apply Nat.eq_of_testBit_eq
 intro i
 rw [Nat.testBit_xor]
 rw [show (4294967295 : Nat) = 2 ^ 32 - 1 from rfl,Nat.testBit_two_pow_sub_one]
 have e2 : UInt32.size - 1 - x.toNat = 2 ^ 32 - (x.toNat + 1):=by unfold UInt32.size; omega
 rw [e2,Nat.testBit_two_pow_sub_succ this]
 by_cases hi : i < 32
 ·simp [hi]
 ·have : x.toNat.testBit i = false:=Nat.testBit_lt_two_pow (Nat.lt_of_lt_of_le this (Nat.pow_le_pow_right (by omega) (by omega)))
  simp [hi,this]
@[simp,go_sem] theorem wd_not' (x : UInt32) : bits .xor .u32 IntKind.u32.max (wd x) = wd (~~~x):=wd_not x
@[simp,go_sem] theorem wd_add (x y : UInt32) : IntKind.u32.wrap (wd x + wd y) = wd (x + y):=by
 unfold wd; rw [IntKind.wrap_u32,UInt32.toNat_add]; omega
@[simp,go_sem] theorem wd_sum (x y : UInt32) : (wd x + wd y) % (4294967296 : Int) = wd (x + y):=by
 have:=wd_add x y
 rwa [IntKind.wrap_u32] at this
@[simp,go_sem] theorem wd_sum3 (x y z : UInt32) : (wd x + wd y + wd z) % (4294967296 : Int) = wd (x + y + z):=by
 rw [<- wd_sum,<- wd_sum]; omega
@[simp,go_sem] theorem wd_shr3 (x : UInt32) : wd x / (8 : Int) = wd (x >>> 3):=by
 show (x.toNat : Int) / (8 : Int) = ((x >>> 3).toNat : Int); rw [UInt32.toNat_shiftRight]; simp [Nat.shiftRight_eq_div_pow]
@[simp,go_sem] theorem wd_shr10 (x : UInt32) : wd x / (1024 : Int) = wd (x >>> 10):=by
 show (x.toNat : Int) / (1024 : Int) = ((x >>> 10).toNat : Int); rw [UInt32.toNat_shiftRight]; simp [Nat.shiftRight_eq_div_pow]
def rotr (x n : UInt32) : UInt32:=(x >>> n) ||| (x <<< (32 - n))
theorem wd_shl (x : UInt32) (n : Nat) (hn : n < 32) : wd x * (2 ^ n : Nat) % 4294967296 = wd (x <<< (UInt32.ofNat n)):=by
 unfold wd
 rw [UInt32.toNat_shiftLeft,UInt32.toNat_ofNat',Nat.mod_eq_of_lt (a:=n) (by omega),Nat.mod_eq_of_lt (a:=n) (by omega),Nat.shiftLeft_eq]
 omega
theorem wd_shr (x : UInt32) (n : Nat) (hn : n < 32) : wd x / (2 ^ n : Nat) = wd (x >>> (UInt32.ofNat n)):=by
 unfold wd
 rw [UInt32.toNat_shiftRight,UInt32.toNat_ofNat',Nat.mod_eq_of_lt (a:=n) (by omega),Nat.mod_eq_of_lt (a:=n) (by omega),Nat.shiftRight_eq_div_pow]
 omega
theorem rot_spell2 (x : UInt32) : bits .or .u32 (wd x * 1073741824 % 4294967296) (wd x / 4) = wd (rotr x 2) /\ bits .or .u32 (wd x / 4) (wd x * 1073741824 % 4294967296) = wd (rotr x 2):=by
 have h1:=wd_shl x 30 (by omega)
 have h2:=wd_shr x 2 (by omega)
 rw [show ((2 ^ 30 : Nat) : Int) = 1073741824 from rfl] at h1
 rw [show ((2 ^ 2 : Nat) : Int) = 4 from rfl] at h2
 rw [h1,h2,wd_or,wd_or]
 exact ⟨by rw [UInt32.or_comm]; rfl,rfl⟩
theorem rot_2 (x : UInt32) (w : World) :
  Calls Tryz.prog 277 #[.int .u32 (wd x),.int .i64 (-2)] w fun e w' => e = .returned (.int .u32 (wd (rotr x 2))) /\ w = w':=by
 have hs : bits BinOp.and IntKind.u64 (IntKind.u64.wrap (-2)) 31 = 30:=by decide
 go_enter Tryz.func277,Tryz.ntmps277
 go_wp2
 go_ret
 exact ⟨ret_int (rot_spell2 x).1,rfl⟩
theorem rot_spell6 (x : UInt32) : bits .or .u32 (wd x * 67108864 % 4294967296) (wd x / 64) = wd (rotr x 6) /\ bits .or .u32 (wd x / 64) (wd x * 67108864 % 4294967296) = wd (rotr x 6):=by
 have h1:=wd_shl x 26 (by omega)
 have h2:=wd_shr x 6 (by omega)
 rw [show ((2 ^ 26 : Nat) : Int) = 67108864 from rfl] at h1
 rw [show ((2 ^ 6 : Nat) : Int) = 64 from rfl] at h2
 rw [h1,h2,wd_or,wd_or]
 exact ⟨by rw [UInt32.or_comm]; rfl,rfl⟩
theorem rot_6 (x : UInt32) (w : World) :
  Calls Tryz.prog 277 #[.int .u32 (wd x),.int .i64 (-6)] w fun e w' => e = .returned (.int .u32 (wd (rotr x 6))) /\ w = w':=by
 have hs : bits BinOp.and IntKind.u64 (IntKind.u64.wrap (-6)) 31 = 26:=by decide
 go_enter Tryz.func277,Tryz.ntmps277
 go_wp2
 go_ret
 exact ⟨ret_int (rot_spell6 x).1,rfl⟩
theorem orot_6 (x : UInt32) (w n : World) : Calls Tryz.prog 277 #[.int .u32 (wd x),.int .i64 (-6)] (World.over w n) fun e w'' => e = .returned (.int .u32 (wd (rotr x 6))) /\ ∃ m,w'' = World.over w m:=over_same (rot_6 x _)
theorem rot_spell7 (x : UInt32) : bits .or .u32 (wd x * 33554432 % 4294967296) (wd x / 128) = wd (rotr x 7) /\ bits .or .u32 (wd x / 128) (wd x * 33554432 % 4294967296) = wd (rotr x 7):=by
 have h1:=wd_shl x 25 (by omega)
 have h2:=wd_shr x 7 (by omega)
 rw [show ((2 ^ 25 : Nat) : Int) = 33554432 from rfl] at h1
 rw [show ((2 ^ 7 : Nat) : Int) = 128 from rfl] at h2
 rw [h1,h2,wd_or,wd_or]
 exact ⟨by rw [UInt32.or_comm]; rfl,rfl⟩
theorem rot_7 (x : UInt32) (w : World) :
  Calls Tryz.prog 277 #[.int .u32 (wd x),.int .i64 (-7)] w fun e w' => e = .returned (.int .u32 (wd (rotr x 7))) /\ w = w':=by
 have hs : bits BinOp.and IntKind.u64 (IntKind.u64.wrap (-7)) 31 = 25:=by decide
 go_enter Tryz.func277,Tryz.ntmps277
 go_wp2
 go_ret
 exact ⟨ret_int (rot_spell7 x).1,rfl⟩
theorem rot_spell11 (x : UInt32) : bits .or .u32 (wd x * 2097152 % 4294967296) (wd x / 2048) = wd (rotr x 11) /\ bits .or .u32 (wd x / 2048) (wd x * 2097152 % 4294967296) = wd (rotr x 11):=by
 have h1:=wd_shl x 21 (by omega)
 have h2:=wd_shr x 11 (by omega)
 rw [show ((2 ^ 21 : Nat) : Int) = 2097152 from rfl] at h1
 rw [show ((2 ^ 11 : Nat) : Int) = 2048 from rfl] at h2
 rw [h1,h2,wd_or,wd_or]
 exact ⟨by rw [UInt32.or_comm]; rfl,rfl⟩
theorem rot_11 (x : UInt32) (w : World) :
  Calls Tryz.prog 277 #[.int .u32 (wd x),.int .i64 (-11)] w fun e w' => e = .returned (.int .u32 (wd (rotr x 11))) /\ w = w':=by
 have hs : bits BinOp.and IntKind.u64 (IntKind.u64.wrap (-11)) 31 = 21:=by decide
 go_enter Tryz.func277,Tryz.ntmps277
 go_wp2
 go_ret
 exact ⟨ret_int (rot_spell11 x).1,rfl⟩
theorem orot_11 (x : UInt32) (w n : World) : Calls Tryz.prog 277 #[.int .u32 (wd x),.int .i64 (-11)] (World.over w n) fun e w'' => e = .returned (.int .u32 (wd (rotr x 11))) /\ ∃ m,w'' = World.over w m:=over_same (rot_11 x _)
theorem rot_spell13 (x : UInt32) : bits .or .u32 (wd x * 524288 % 4294967296) (wd x / 8192) = wd (rotr x 13) /\ bits .or .u32 (wd x / 8192) (wd x * 524288 % 4294967296) = wd (rotr x 13):=by
 have h1:=wd_shl x 19 (by omega)
 have h2:=wd_shr x 13 (by omega)
 rw [show ((2 ^ 19 : Nat) : Int) = 524288 from rfl] at h1
 rw [show ((2 ^ 13 : Nat) : Int) = 8192 from rfl] at h2
 rw [h1,h2,wd_or,wd_or]
 exact ⟨by rw [UInt32.or_comm]; rfl,rfl⟩
theorem rot_13 (x : UInt32) (w : World) :
  Calls Tryz.prog 277 #[.int .u32 (wd x),.int .i64 (-13)] w fun e w' => e = .returned (.int .u32 (wd (rotr x 13))) /\ w = w':=by
 have hs : bits BinOp.and IntKind.u64 (IntKind.u64.wrap (-13)) 31 = 19:=by decide
 go_enter Tryz.func277,Tryz.ntmps277
 go_wp2
 go_ret
 exact ⟨ret_int (rot_spell13 x).1,rfl⟩
theorem rot_spell17 (x : UInt32) : bits .or .u32 (wd x * 32768 % 4294967296) (wd x / 131072) = wd (rotr x 17) /\ bits .or .u32 (wd x / 131072) (wd x * 32768 % 4294967296) = wd (rotr x 17):=by
 have h1:=wd_shl x 15 (by omega)
 have h2:=wd_shr x 17 (by omega)
 rw [show ((2 ^ 15 : Nat) : Int) = 32768 from rfl] at h1
 rw [show ((2 ^ 17 : Nat) : Int) = 131072 from rfl] at h2
 rw [h1,h2,wd_or,wd_or]
 exact ⟨by rw [UInt32.or_comm]; rfl,rfl⟩
theorem rot_17 (x : UInt32) (w : World) :
  Calls Tryz.prog 277 #[.int .u32 (wd x),.int .i64 (-17)] w fun e w' => e = .returned (.int .u32 (wd (rotr x 17))) /\ w = w':=by
 have hs : bits BinOp.and IntKind.u64 (IntKind.u64.wrap (-17)) 31 = 15:=by decide
 go_enter Tryz.func277,Tryz.ntmps277
 go_wp2
 go_ret
 exact ⟨ret_int (rot_spell17 x).1,rfl⟩
theorem rot_spell18 (x : UInt32) : bits .or .u32 (wd x * 16384 % 4294967296) (wd x / 262144) = wd (rotr x 18) /\ bits .or .u32 (wd x / 262144) (wd x * 16384 % 4294967296) = wd (rotr x 18):=by
 have h1:=wd_shl x 14 (by omega)
 have h2:=wd_shr x 18 (by omega)
 rw [show ((2 ^ 14 : Nat) : Int) = 16384 from rfl] at h1
 rw [show ((2 ^ 18 : Nat) : Int) = 262144 from rfl] at h2
 rw [h1,h2,wd_or,wd_or]
 exact ⟨by rw [UInt32.or_comm]; rfl,rfl⟩
theorem rot_18 (x : UInt32) (w : World) :
  Calls Tryz.prog 277 #[.int .u32 (wd x),.int .i64 (-18)] w fun e w' => e = .returned (.int .u32 (wd (rotr x 18))) /\ w = w':=by
 have hs : bits BinOp.and IntKind.u64 (IntKind.u64.wrap (-18)) 31 = 14:=by decide
 go_enter Tryz.func277,Tryz.ntmps277
 go_wp2
 go_ret
 exact ⟨ret_int (rot_spell18 x).1,rfl⟩
theorem rot_spell19 (x : UInt32) : bits .or .u32 (wd x * 8192 % 4294967296) (wd x / 524288) = wd (rotr x 19) /\ bits .or .u32 (wd x / 524288) (wd x * 8192 % 4294967296) = wd (rotr x 19):=by
 have h1:=wd_shl x 13 (by omega)
 have h2:=wd_shr x 19 (by omega)
 rw [show ((2 ^ 13 : Nat) : Int) = 8192 from rfl] at h1
 rw [show ((2 ^ 19 : Nat) : Int) = 524288 from rfl] at h2
 rw [h1,h2,wd_or,wd_or]
 exact ⟨by rw [UInt32.or_comm]; rfl,rfl⟩
theorem rot_19 (x : UInt32) (w : World) :
  Calls Tryz.prog 277 #[.int .u32 (wd x),.int .i64 (-19)] w fun e w' => e = .returned (.int .u32 (wd (rotr x 19))) /\ w = w':=by
 have hs : bits BinOp.and IntKind.u64 (IntKind.u64.wrap (-19)) 31 = 13:=by decide
 go_enter Tryz.func277,Tryz.ntmps277
 go_wp2
 go_ret
 exact ⟨ret_int (rot_spell19 x).1,rfl⟩
theorem rot_spell22 (x : UInt32) : bits .or .u32 (wd x * 1024 % 4294967296) (wd x / 4194304) = wd (rotr x 22) /\ bits .or .u32 (wd x / 4194304) (wd x * 1024 % 4294967296) = wd (rotr x 22):=by
 have h1:=wd_shl x 10 (by omega)
 have h2:=wd_shr x 22 (by omega)
 rw [show ((2 ^ 10 : Nat) : Int) = 1024 from rfl] at h1
 rw [show ((2 ^ 22 : Nat) : Int) = 4194304 from rfl] at h2
 rw [h1,h2,wd_or,wd_or]
 exact ⟨by rw [UInt32.or_comm]; rfl,rfl⟩
theorem rot_22 (x : UInt32) (w : World) :
  Calls Tryz.prog 277 #[.int .u32 (wd x),.int .i64 (-22)] w fun e w' => e = .returned (.int .u32 (wd (rotr x 22))) /\ w = w':=by
 have hs : bits BinOp.and IntKind.u64 (IntKind.u64.wrap (-22)) 31 = 10:=by decide
 go_enter Tryz.func277,Tryz.ntmps277
 go_wp2
 go_ret
 exact ⟨ret_int (rot_spell22 x).1,rfl⟩
theorem rot_spell25 (x : UInt32) : bits .or .u32 (wd x * 128 % 4294967296) (wd x / 33554432) = wd (rotr x 25) /\ bits .or .u32 (wd x / 33554432) (wd x * 128 % 4294967296) = wd (rotr x 25):=by
 have h1:=wd_shl x 7 (by omega)
 have h2:=wd_shr x 25 (by omega)
 rw [show ((2 ^ 7 : Nat) : Int) = 128 from rfl] at h1
 rw [show ((2 ^ 25 : Nat) : Int) = 33554432 from rfl] at h2
 rw [h1,h2,wd_or,wd_or]
 exact ⟨by rw [UInt32.or_comm]; rfl,rfl⟩
theorem rot_25 (x : UInt32) (w : World) :
  Calls Tryz.prog 277 #[.int .u32 (wd x),.int .i64 (-25)] w fun e w' => e = .returned (.int .u32 (wd (rotr x 25))) /\ w = w':=by
 have hs : bits BinOp.and IntKind.u64 (IntKind.u64.wrap (-25)) 31 = 7:=by decide
 go_enter Tryz.func277,Tryz.ntmps277
 go_wp2
 go_ret
 exact ⟨ret_int (rot_spell25 x).1,rfl⟩
theorem orot_25 (x : UInt32) (w n : World) : Calls Tryz.prog 277 #[.int .u32 (wd x),.int .i64 (-25)] (World.over w n) fun e w'' => e = .returned (.int .u32 (wd (rotr x 25))) /\ ∃ m,w'' = World.over w m:=over_same (rot_25 x _)
structure S8 where
 a : UInt32
 b : UInt32
 c : UInt32
 d : UInt32
 e : UInt32
 f : UInt32
 g : UInt32
 h : UInt32
def S8.list (s : S8) : List UInt32:=[s.a,s.b,s.c,s.d,s.e,s.f,s.g,s.h]
def S8.t (s : S8) (k w : UInt32) : UInt32:=s.h + (rotr s.e 6 ^^^ rotr s.e 11 ^^^ rotr s.e 25) + (s.e &&& s.f ^^^ ~~~s.e &&& s.g) + k + w
def S8.u (s : S8) : UInt32:=(rotr s.a 2 ^^^ rotr s.a 13 ^^^ rotr s.a 22) + (s.a &&& s.b ^^^ s.a &&& s.c ^^^ s.b &&& s.c)
def S8.rnd (s : S8) (k w : UInt32) : S8:=⟨s.t k w + s.u,s.a,s.b,s.c,s.d + s.t k w,s.e,s.f,s.g⟩
def S8.add (s r : S8) : S8:=⟨s.a + r.a,s.b + r.b,s.c + r.c,s.d + r.d,s.e + r.e,s.f + r.f,s.g + r.g,s.h + r.h⟩
def word (b0 b1 b2 b3 : UInt8) : UInt32:=b3.toUInt32 ||| b2.toUInt32 <<< 8 ||| b1.toUInt32 <<< 16 ||| b0.toUInt32 <<< 24
def wordAt (b : List UInt8) (i : Nat) : UInt32:=word (b.getD (4 * i) 0) (b.getD (4 * i + 1) 0) (b.getD (4 * i + 2) 0) (b.getD (4 * i + 3) 0)
def sig0 (x : UInt32) : UInt32:=rotr x 7 ^^^ rotr x 18 ^^^ x >>> 3
def sig1 (x : UInt32) : UInt32:=rotr x 17 ^^^ rotr x 19 ^^^ x >>> 10
def nextW (l : List UInt32) (k : Nat) : UInt32:=l.getD (k - 16) 0 + sig0 (l.getD (k - 15) 0) + l.getD (k - 7) 0 + sig1 (l.getD (k - 2) 0)
def sched (b : List UInt8) : Nat -> List UInt32
 | 0 => []
 | k + 1 => sched b k ++ [if k < 16 then wordAt b k else nextW (sched b k) k]
theorem sched_length (b : List UInt8) (k : Nat) : (sched b k).length = k:=by
 induction k with
 | zero => rfl
 | succ k ih => simp [sched,ih]
def part64 (b : List UInt8) (k : Nat) : List UInt32:=sched b k ++ List.replicate (64 - k) 0
theorem part64_length (b : List UInt8) (k : Nat) (h : k <= 64) : (part64 b k).length = 64:=by simp [part64,sched_length]; omega
theorem part64_full (b : List UInt8) : part64 b 64 = sched b 64:=by simp [part64]
theorem part64_at (b : List UInt8) (k i : Nat) (hi : i < k) : (part64 b k)[i]? = some ((sched b k).getD i 0):=by
 rw [part64,List.getElem?_append_left (by rw [sched_length]; omega),List.getD_eq_getElem?_getD,List.getElem?_eq_getElem (by rw [sched_length]; omega)]
 rfl
theorem part64_set (b : List UInt8) (k : Nat) (hk : k < 64) (x : UInt32) (hx : x = if k < 16 then wordAt b k else nextW (sched b k) k) : (part64 b k).set k x = part64 b (k + 1):=by
 subst hx
 rw [part64,List.set_append_right _ _ (by rw [sched_length]; omega),sched_length,Nat.sub_self,show 64 - k = (64 - (k + 1)) + 1 by omega,List.replicate_succ,List.set_cons_zero,part64,sched]
 simp
theorem nextW_sched (b : List UInt8) (k : Nat) : nextW (sched b k) k = (sched b k).getD (k - 16) 0 + sig0 ((sched b k).getD (k - 15) 0) + (sched b k).getD (k - 7) 0 + sig1 ((sched b k).getD (k - 2) 0):=rfl
def KK : List UInt32:=[
 0x428a2f98,0x71374491,0xb5c0fbcf,0xe9b5dba5,0x3956c25b,0x59f111f1,0x923f82a4,0xab1c5ed5,
 0xd807aa98,0x12835b01,0x243185be,0x550c7dc3,0x72be5d74,0x80deb1fe,0x9bdc06a7,0xc19bf174,
 0xe49b69c1,0xefbe4786,0x0fc19dc6,0x240ca1cc,0x2de92c6f,0x4a7484aa,0x5cb0a9dc,0x76f988da,
 0x983e5152,0xa831c66d,0xb00327c8,0xbf597fc7,0xc6e00bf3,0xd5a79147,0x06ca6351,0x14292967,
 0x27b70a85,0x2e1b2138,0x4d2c6dfc,0x53380d13,0x650a7354,0x766a0abb,0x81c2c92e,0x92722c85,
 0xa2bfe8a1,0xa81a664b,0xc24b8b70,0xc76c51a3,0xd192e819,0xd6990624,0xf40e3585,0x106aa070,
 0x19a4c116,0x1e376c08,0x2748774c,0x34b0bcb5,0x391c0cb3,0x4ed8aa4a,0x5b9cca4f,0x682e6ff3,
 0x748f82ee,0x78a5636f,0x84c87814,0x8cc70208,0x90befffa,0xa4506ceb,0xbef9a3f7,0xc67178f2]
def begunS : S8:=⟨0x6a09e667,0xbb67ae85,0x3c6ef372,0xa54ff53a,0x510e527f,0x9b05688c,0x1f83d9ab,0x5be0cd19⟩
def rnds (b : List UInt8) (s : S8) : Nat -> S8
 | 0 => s
 | i + 1 => (rnds b s i).rnd (KK.getD i 0) ((sched b 64).getD i 0)
def comp (s : S8) (b : List UInt8) : S8:=s.add (rnds b s 64)
def blocks : Nat -> S8 -> List UInt8 -> S8
 | 0,s,_ => s
 | n + 1,s,b => blocks n (comp s b) (b.drop 64)
theorem wordAt_congr {b c : List UInt8} (h : b.take 64 = c.take 64) (i : Nat) (hi : i < 16) : wordAt b i = wordAt c i:=by
 have e : ∀ j,j < 64 -> b.getD j 0 = c.getD j 0:=fun j hj => by
  have:=congrArg (·[j]?) h
  simp only [List.getElem?_take,if_pos hj] at this
  rw [List.getD_eq_getElem?_getD,List.getD_eq_getElem?_getD,this]
 unfold wordAt
 rw [e _ (by omega),e _ (by omega),e _ (by omega),e _ (by omega)]
theorem sched_congr {b c : List UInt8} (h : b.take 64 = c.take 64) (k : Nat) : sched b k = sched c k:=by
 induction k with
 | zero => rfl
 | succ k ih =>
  simp only [sched,ih]
  by_cases hk : k < 16
  ·rw [if_pos hk,if_pos hk,wordAt_congr h k hk]
  ·rw [if_neg hk,if_neg hk]
theorem rnds_congr {b c : List UInt8} (h : b.take 64 = c.take 64) (s : S8) (n : Nat) : rnds b s n = rnds c s n:=by
 induction n with
 | zero => rfl
 | succ n ih => simp only [rnds,ih,sched_congr h]
theorem comp_congr {b c : List UInt8} (h : b.take 64 = c.take 64) (s : S8) : comp s b = comp s c:=by unfold comp; rw [rnds_congr h]
theorem comp_take (s : S8) (b : List UInt8) : comp s (b.take 64) = comp s b:=comp_congr (by rw [List.take_take]; rfl) s
theorem blocks_append (n : Nat) (s : S8) (b c : List UInt8) (h : 64 * n <= b.length) : blocks n s (b ++ c) = blocks n s b:=by
 induction n generalizing s b with
 | zero => rfl
 | succ n ih =>
  simp only [blocks]
  rw [comp_congr (c:=b) (by rw [List.take_append_of_le_length (by omega)]),List.drop_append_of_le_length (by omega),ih _ _ (by rw [List.length_drop]; omega)]
theorem blocks_take (n : Nat) (s : S8) (b : List UInt8) (h : 64 * n <= b.length) : blocks n s (b.take (64 * n)) = blocks n s b:=by
 conv => rhs; rw [<- List.take_append_drop (64 * n) b]
 rw [blocks_append _ _ _ _ (by rw [List.length_take]; omega)]
theorem blocks_add (n m : Nat) (s : S8) (b : List UInt8) : blocks (n + m) s b = blocks m (blocks n s b) (b.drop (64 * n)):=by
 induction n generalizing s b with
 | zero => simp [blocks]
 | succ n ih =>
  rw [show n + 1 + m = (n + m) + 1 by omega]
  simp only [blocks]
  rw [ih,List.drop_drop,show 64 + 64 * n = 64 * (n + 1) by omega]
theorem blocks_one (s : S8) (b : List UInt8) : blocks 1 s b = comp s b:=rfl
def hashed (xs : List UInt8) : S8:=blocks (xs.length / 64) begunS xs
def held (xs : List UInt8) : List UInt8:=xs.drop (64 * (xs.length / 64))
theorem held_length (xs : List UInt8) : (held xs).length = xs.length % 64:=by unfold held; rw [List.length_drop]; omega
theorem hashed_few (xs ys : List UInt8) (h : (held xs).length + ys.length < 64) : hashed (xs ++ ys) = hashed xs /\ held (xs ++ ys) = held xs ++ ys:=by
 rw [held_length] at h
 have e : (xs ++ ys).length / 64 = xs.length / 64:=by rw [List.length_append]; omega
 unfold hashed held
 rw [e,blocks_append _ _ _ _ (by omega),List.drop_append_of_le_length (by omega)]
 exact ⟨rfl,rfl⟩
theorem hashed_fill (xs ys : List UInt8) (h : (held xs).length + ys.length = 64) : hashed (xs ++ ys) = comp (hashed xs) (held xs ++ ys) /\ held (xs ++ ys) = []:=by
 rw [held_length] at h
 have e : (xs ++ ys).length / 64 = xs.length / 64 + 1:=by rw [List.length_append]; omega
 constructor
 ·unfold hashed held
  rw [e,blocks_add,blocks_one,blocks_append _ _ _ _ (by omega),List.drop_append_of_le_length (by omega)]
 ·refine List.eq_nil_of_length_eq_zero ?_
  rw [held_length,List.length_append]; omega
def padTo (r : List UInt8) (n : Nat) : List UInt8:=r ++ [0x80] ++ List.replicate ((119 - r.length % 64) % 64) 0 ++ be8 n
where be8 (n : Nat) : List UInt8:=[UInt8.ofNat (8 * n / 72057594037927936),UInt8.ofNat (8 * n / 281474976710656),UInt8.ofNat (8 * n / 1099511627776),UInt8.ofNat (8 * n / 4294967296),UInt8.ofNat (8 * n / 16777216),UInt8.ofNat (8 * n / 65536),UInt8.ofNat (8 * n / 256),UInt8.ofNat (8 * n)]
theorem padTo_length (r : List UInt8) (n : Nat) : (padTo r n).length = 64 * ((padTo r n).length / 64) /\ (padTo r n).length <= r.length + 72:=by
 have : (padTo r n).length = r.length + 1 + (119 - r.length % 64) % 64 + 8:=by simp [padTo,padTo.be8]; omega
 rw [this]; omega
def wbytes (x : UInt32) : List UInt8:=[UInt8.ofNat (x.toNat / 16777216),UInt8.ofNat (x.toNat / 65536),UInt8.ofNat (x.toNat / 256),UInt8.ofNat x.toNat]
def S8.bytes (s : S8) : List UInt8:=(s.list.map wbytes).flatten
def sha (xs : List UInt8) : List UInt8:=(blocks ((padTo xs xs.length).length / 64) begunS (padTo xs xs.length)).bytes
theorem sha_length (xs : List UInt8) : (sha xs).length = 32:=rfl
theorem sha_held (xs : List UInt8) : sha xs = (blocks ((padTo (held xs) xs.length).length / 64) (hashed xs) (padTo (held xs) xs.length)).bytes:=by
 have e : padTo xs xs.length = xs.take (64 * (xs.length / 64)) ++ padTo (held xs) xs.length:=by
  have hm : (held xs).length % 64 = xs.length % 64:=by rw [held_length]; omega
  unfold padTo
  rw [hm]
  simp only [<- List.append_assoc]
  rw [held,List.take_append_drop]
 have hl : (padTo xs xs.length).length / 64 = xs.length / 64 + (padTo (held xs) xs.length).length / 64:=by
  rw [e,List.length_append,List.length_take]
  have:=(padTo_length (held xs) xs.length).1
  omega
 unfold sha
 rw [hl,blocks_add,e,blocks_append _ _ _ _ (by rw [List.length_take]; omega),blocks_take _ _ _ (by omega),List.drop_left' (by rw [List.length_take]; omega)]
 rfl
def partF (n k : Nat) : Nat:=if 0 < k /\ 2 * k < n then partF n (2 * k) else k
termination_by n - k
decreasing_by omega
def mpart (n : Nat) : Nat:=partF n 1
theorem partF_go {n k : Nat} (h0 : 0 < k) (h : 2 * k < n) : partF n k = partF n (2 * k):=by rw [partF,if_pos ⟨h0,h⟩]
theorem partF_stop {n k : Nat} (h : ¬ 2 * k < n) : partF n k = k:=by rw [partF,if_neg (by omega)]
theorem partF_spec (n k : Nat) (h0 : 0 < k) (h : k < n) : partF n k < n /\ n <= 2 * partF n k /\ k <= partF n k:=by
 by_cases h2 : 2 * k < n
 ·rw [partF_go h0 h2]
  have:=partF_spec n (2 * k) (by omega) h2
  omega
 ·rw [partF_stop h2]; omega
termination_by n - k
theorem mpart_spec {n : Nat} (h : 2 <= n) : mpart n < n /\ n <= 2 * mpart n /\ 1 <= mpart n:=partF_spec n 1 (by omega) (by omega)
abbrev pairH (x y : List UInt8) : List UInt8:=sha (1 :: (x ++ y))
def mroot (ls : List (List UInt8)) : List UInt8 :=
 if ls.length < 2 then (if ls.length = 0 then sha [] else sha (0 :: ls.headD []))
 else pairH (mroot (ls.take (mpart ls.length))) (mroot (ls.drop (mpart ls.length)))
termination_by ls.length
decreasing_by
 ·have:=mpart_spec (n:=ls.length) (by omega); simp; omega
 ·have:=mpart_spec (n:=ls.length) (by omega); simp; omega
theorem mroot_nil : mroot [] = sha []:=by rw [mroot]; rfl
theorem mroot_one (x : List UInt8) : mroot [x] = sha (0 :: x):=by rw [mroot]; rfl
theorem mroot_more {ls : List (List UInt8)} (h : 2 <= ls.length) : mroot ls = pairH (mroot (ls.take (mpart ls.length))) (mroot (ls.drop (mpart ls.length))):=by rw [mroot,if_neg (by omega)]
theorem mroot_length (ls : List (List UInt8)) : (mroot ls).length = 32:=by
 rw [mroot]; split
 ·split <;> exact sha_length _
 ·exact sha_length _
def blk (n : Int) : Int:=if n < 1 then 0 else (n - 1) / 128 + 1
end
end Go.Proofs.YtabdcphioccgnaaGreatDoor
