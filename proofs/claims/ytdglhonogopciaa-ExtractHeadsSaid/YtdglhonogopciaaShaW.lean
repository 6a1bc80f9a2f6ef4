/- Words of 32 bits, as the walk holds them. -/
import Derived.Test.YtdglhonogopciaaBase
import Derived.Test.YtdglhonogopciaaProg
import Derived.Laws.BitsAllLaws
namespace Go.Proofs.Ytdglhonogopciaa
open Go.RowKit

/-- a word as the program holds it -/
def wd (x : UInt32) : Int := (x.toNat : Int)
theorem wd_nonneg (x : UInt32) : 0 ≤ wd x := by unfold wd; omega
theorem wd_lt (x : UInt32) : wd x < 4294967296 := by unfold wd; have := x.toNat_lt; omega
@[simp, go_sem] theorem wd_xor (x y : UInt32) : bits .xor .u32 (wd x) (wd y) = wd (x ^^^ y) := by
  unfold wd; rw [u32_xor_nat _ _ x.toNat_lt y.toNat_lt, UInt32.toNat_xor]
@[simp, go_sem] theorem wd_and (x y : UInt32) : bits .and .u32 (wd x) (wd y) = wd (x &&& y) := by
  unfold wd; rw [u32_and_nat _ _ x.toNat_lt y.toNat_lt, UInt32.toNat_and]
@[simp, go_sem] theorem wd_or (x y : UInt32) : bits .or .u32 (wd x) (wd y) = wd (x ||| y) := by
  unfold wd; rw [u32_or_nat _ _ x.toNat_lt y.toNat_lt, UInt32.toNat_or]
@[simp, go_sem] theorem wd_not (x : UInt32) : bits .xor .u32 4294967295 (wd x) = wd (~~~x) := by
  have h := u32_xor_nat 4294967295 x.toNat (by omega) x.toNat_lt
  unfold wd
  have e : ((4294967295 : Nat) : Int) = 4294967295 := rfl
  rw [← e, h, UInt32.toNat_not]
  congr 1
  have := x.toNat_lt
  apply Nat.eq_of_testBit_eq
  intro i
  rw [Nat.testBit_xor]
  rw [show (4294967295 : Nat) = 2 ^ 32 - 1 from rfl, Nat.testBit_two_pow_sub_one]
  have e2 : UInt32.size - 1 - x.toNat = 2 ^ 32 - (x.toNat + 1) := by unfold UInt32.size; omega
  rw [e2, Nat.testBit_two_pow_sub_succ this]
  by_cases hi : i < 32
  · simp [hi]
  · have : x.toNat.testBit i = false := Nat.testBit_lt_two_pow (Nat.lt_of_lt_of_le this (Nat.pow_le_pow_right (by omega) (by omega)))
    simp [hi, this]
@[simp, go_sem] theorem wd_not' (x : UInt32) : bits .xor .u32 IntKind.u32.max (wd x) = wd (~~~x) := wd_not x
@[simp, go_sem] theorem wd_add (x y : UInt32) : IntKind.u32.wrap (wd x + wd y) = wd (x + y) := by
  unfold wd; rw [IntKind.wrap_u32, UInt32.toNat_add]; omega
@[simp, go_sem] theorem wd_sum (x y : UInt32) : (wd x + wd y) % (4294967296 : Int) = wd (x + y) := by
  have := wd_add x y
  rwa [IntKind.wrap_u32] at this
@[simp, go_sem] theorem wd_sum3 (x y z : UInt32) : (wd x + wd y + wd z) % (4294967296 : Int) = wd (x + y + z) := by
  rw [← wd_sum, ← wd_sum]; omega
@[simp, go_sem] theorem wd_sum4 (x y z t : UInt32) : (wd x + wd y + wd z + wd t) % (4294967296 : Int) = wd (x + y + z + t) := by
  rw [← wd_sum, ← wd_sum3]; omega
@[simp, go_sem] theorem wd_sum5 (x y z t u : UInt32) : (wd x + wd y + wd z + wd t + wd u) % (4294967296 : Int) = wd (x + y + z + t + u) := by
  rw [← wd_sum, ← wd_sum4]; omega
@[simp, go_sem] theorem wd_shr3 (x : UInt32) : wd x / (8 : Int) = wd (x >>> 3) := by
  show (x.toNat : Int) / (8 : Int) = ((x >>> 3).toNat : Int); rw [UInt32.toNat_shiftRight]; simp [Nat.shiftRight_eq_div_pow]
@[simp, go_sem] theorem wd_shr10 (x : UInt32) : wd x / (1024 : Int) = wd (x >>> 10) := by
  show (x.toNat : Int) / (1024 : Int) = ((x >>> 10).toNat : Int); rw [UInt32.toNat_shiftRight]; simp [Nat.shiftRight_eq_div_pow]

/-- turned to the right -/
def rotr (x n : UInt32) : UInt32 := (x >>> n) ||| (x <<< (32 - n))

theorem wd_shl (x : UInt32) (n : Nat) (hn : n < 32) : wd x * (2 ^ n : Nat) % 4294967296 = wd (x <<< (UInt32.ofNat n)) := by
  unfold wd
  rw [UInt32.toNat_shiftLeft, UInt32.toNat_ofNat', Nat.mod_eq_of_lt (a := n) (by omega), Nat.mod_eq_of_lt (a := n) (by omega), Nat.shiftLeft_eq]
  omega
theorem wd_shr (x : UInt32) (n : Nat) (hn : n < 32) : wd x / (2 ^ n : Nat) = wd (x >>> (UInt32.ofNat n)) := by
  unfold wd
  rw [UInt32.toNat_shiftRight, UInt32.toNat_ofNat', Nat.mod_eq_of_lt (a := n) (by omega), Nat.mod_eq_of_lt (a := n) (by omega), Nat.shiftRight_eq_div_pow]
  omega
theorem rot_spell2 (x : UInt32) : bits .or .u32 (wd x * 1073741824 % 4294967296) (wd x / 4) = wd (rotr x 2) ∧ bits .or .u32 (wd x / 4) (wd x * 1073741824 % 4294967296) = wd (rotr x 2) := by
  have h1 := wd_shl x 30 (by omega)
  have h2 := wd_shr x 2 (by omega)
  rw [show ((2 ^ 30 : Nat) : Int) = 1073741824 from rfl] at h1
  rw [show ((2 ^ 2 : Nat) : Int) = 4 from rfl] at h2
  rw [h1, h2, wd_or, wd_or]
  exact ⟨by rw [UInt32.or_comm]; rfl, rfl⟩
set_option maxHeartbeats 400000 in
theorem rot_2 (x : UInt32) (w : World) :
    Calls Try.prog 47 #[.int .u32 (wd x), .int .i64 (-2)] w fun e w' => e = .returned (.int .u32 (wd (rotr x 2))) ∧ w = w' := by
  have hs : bits BinOp.and IntKind.u64 (IntKind.u64.wrap (-2)) 31 = 30 := by decide
  go_enter Try.func47, Try.ntmps47
  go_wp2
  go_ret
  exact ⟨ret_int (rot_spell2 x).1, rfl⟩
theorem orot_2 (x : UInt32) (w n : World) : Calls Try.prog 47 #[.int .u32 (wd x), .int .i64 (-2)] (World.over w n) fun e w'' => e = .returned (.int .u32 (wd (rotr x 2))) ∧ ∃ m, w'' = World.over w m := over_same (rot_2 x _)
set_option maxHeartbeats 400000 in
theorem rturn_2 (x : UInt32) (w : World) :
    Calls Try.prog 26 #[.int .u32 (wd x), .int .u64 2] w fun e w' => e = .returned (.int .u32 (wd (rotr x 2))) ∧ w = w' := by
  go_enter Try.func26, Try.ntmps26
  go_wp2
  go_ret
  exact ⟨ret_int (rot_spell2 x).2, rfl⟩
theorem srturn_2 (x : UInt32) (w : World) : Calls Try.prog 26 #[.int .u32 (wd x), .int .u64 2] w fun e w'' => e = .returned (.int .u32 (wd (rotr x 2))) ∧ w'' = w := (rturn_2 x w).mono fun _ _ h => ⟨h.1, h.2.symm⟩
theorem orturn_2 (x : UInt32) (w n : World) : Calls Try.prog 26 #[.int .u32 (wd x), .int .u64 2] (World.over w n) fun e w'' => e = .returned (.int .u32 (wd (rotr x 2))) ∧ ∃ m, w'' = World.over w m := over_same (rturn_2 x _)
theorem rot_spell6 (x : UInt32) : bits .or .u32 (wd x * 67108864 % 4294967296) (wd x / 64) = wd (rotr x 6) ∧ bits .or .u32 (wd x / 64) (wd x * 67108864 % 4294967296) = wd (rotr x 6) := by
  have h1 := wd_shl x 26 (by omega)
  have h2 := wd_shr x 6 (by omega)
  rw [show ((2 ^ 26 : Nat) : Int) = 67108864 from rfl] at h1
  rw [show ((2 ^ 6 : Nat) : Int) = 64 from rfl] at h2
  rw [h1, h2, wd_or, wd_or]
  exact ⟨by rw [UInt32.or_comm]; rfl, rfl⟩
set_option maxHeartbeats 400000 in
theorem rot_6 (x : UInt32) (w : World) :
    Calls Try.prog 47 #[.int .u32 (wd x), .int .i64 (-6)] w fun e w' => e = .returned (.int .u32 (wd (rotr x 6))) ∧ w = w' := by
  have hs : bits BinOp.and IntKind.u64 (IntKind.u64.wrap (-6)) 31 = 26 := by decide
  go_enter Try.func47, Try.ntmps47
  go_wp2
  go_ret
  exact ⟨ret_int (rot_spell6 x).1, rfl⟩
theorem orot_6 (x : UInt32) (w n : World) : Calls Try.prog 47 #[.int .u32 (wd x), .int .i64 (-6)] (World.over w n) fun e w'' => e = .returned (.int .u32 (wd (rotr x 6))) ∧ ∃ m, w'' = World.over w m := over_same (rot_6 x _)
set_option maxHeartbeats 400000 in
theorem rturn_6 (x : UInt32) (w : World) :
    Calls Try.prog 26 #[.int .u32 (wd x), .int .u64 6] w fun e w' => e = .returned (.int .u32 (wd (rotr x 6))) ∧ w = w' := by
  go_enter Try.func26, Try.ntmps26
  go_wp2
  go_ret
  exact ⟨ret_int (rot_spell6 x).2, rfl⟩
theorem srturn_6 (x : UInt32) (w : World) : Calls Try.prog 26 #[.int .u32 (wd x), .int .u64 6] w fun e w'' => e = .returned (.int .u32 (wd (rotr x 6))) ∧ w'' = w := (rturn_6 x w).mono fun _ _ h => ⟨h.1, h.2.symm⟩
theorem orturn_6 (x : UInt32) (w n : World) : Calls Try.prog 26 #[.int .u32 (wd x), .int .u64 6] (World.over w n) fun e w'' => e = .returned (.int .u32 (wd (rotr x 6))) ∧ ∃ m, w'' = World.over w m := over_same (rturn_6 x _)
theorem rot_spell7 (x : UInt32) : bits .or .u32 (wd x * 33554432 % 4294967296) (wd x / 128) = wd (rotr x 7) ∧ bits .or .u32 (wd x / 128) (wd x * 33554432 % 4294967296) = wd (rotr x 7) := by
  have h1 := wd_shl x 25 (by omega)
  have h2 := wd_shr x 7 (by omega)
  rw [show ((2 ^ 25 : Nat) : Int) = 33554432 from rfl] at h1
  rw [show ((2 ^ 7 : Nat) : Int) = 128 from rfl] at h2
  rw [h1, h2, wd_or, wd_or]
  exact ⟨by rw [UInt32.or_comm]; rfl, rfl⟩
set_option maxHeartbeats 400000 in
theorem rot_7 (x : UInt32) (w : World) :
    Calls Try.prog 47 #[.int .u32 (wd x), .int .i64 (-7)] w fun e w' => e = .returned (.int .u32 (wd (rotr x 7))) ∧ w = w' := by
  have hs : bits BinOp.and IntKind.u64 (IntKind.u64.wrap (-7)) 31 = 25 := by decide
  go_enter Try.func47, Try.ntmps47
  go_wp2
  go_ret
  exact ⟨ret_int (rot_spell7 x).1, rfl⟩
theorem orot_7 (x : UInt32) (w n : World) : Calls Try.prog 47 #[.int .u32 (wd x), .int .i64 (-7)] (World.over w n) fun e w'' => e = .returned (.int .u32 (wd (rotr x 7))) ∧ ∃ m, w'' = World.over w m := over_same (rot_7 x _)
set_option maxHeartbeats 400000 in
theorem rturn_7 (x : UInt32) (w : World) :
    Calls Try.prog 26 #[.int .u32 (wd x), .int .u64 7] w fun e w' => e = .returned (.int .u32 (wd (rotr x 7))) ∧ w = w' := by
  go_enter Try.func26, Try.ntmps26
  go_wp2
  go_ret
  exact ⟨ret_int (rot_spell7 x).2, rfl⟩
theorem srturn_7 (x : UInt32) (w : World) : Calls Try.prog 26 #[.int .u32 (wd x), .int .u64 7] w fun e w'' => e = .returned (.int .u32 (wd (rotr x 7))) ∧ w'' = w := (rturn_7 x w).mono fun _ _ h => ⟨h.1, h.2.symm⟩
theorem orturn_7 (x : UInt32) (w n : World) : Calls Try.prog 26 #[.int .u32 (wd x), .int .u64 7] (World.over w n) fun e w'' => e = .returned (.int .u32 (wd (rotr x 7))) ∧ ∃ m, w'' = World.over w m := over_same (rturn_7 x _)
theorem rot_spell11 (x : UInt32) : bits .or .u32 (wd x * 2097152 % 4294967296) (wd x / 2048) = wd (rotr x 11) ∧ bits .or .u32 (wd x / 2048) (wd x * 2097152 % 4294967296) = wd (rotr x 11) := by
  have h1 := wd_shl x 21 (by omega)
  have h2 := wd_shr x 11 (by omega)
  rw [show ((2 ^ 21 : Nat) : Int) = 2097152 from rfl] at h1
  rw [show ((2 ^ 11 : Nat) : Int) = 2048 from rfl] at h2
  rw [h1, h2, wd_or, wd_or]
  exact ⟨by rw [UInt32.or_comm]; rfl, rfl⟩
set_option maxHeartbeats 400000 in
theorem rot_11 (x : UInt32) (w : World) :
    Calls Try.prog 47 #[.int .u32 (wd x), .int .i64 (-11)] w fun e w' => e = .returned (.int .u32 (wd (rotr x 11))) ∧ w = w' := by
  have hs : bits BinOp.and IntKind.u64 (IntKind.u64.wrap (-11)) 31 = 21 := by decide
  go_enter Try.func47, Try.ntmps47
  go_wp2
  go_ret
  exact ⟨ret_int (rot_spell11 x).1, rfl⟩
theorem orot_11 (x : UInt32) (w n : World) : Calls Try.prog 47 #[.int .u32 (wd x), .int .i64 (-11)] (World.over w n) fun e w'' => e = .returned (.int .u32 (wd (rotr x 11))) ∧ ∃ m, w'' = World.over w m := over_same (rot_11 x _)
set_option maxHeartbeats 400000 in
theorem rturn_11 (x : UInt32) (w : World) :
    Calls Try.prog 26 #[.int .u32 (wd x), .int .u64 11] w fun e w' => e = .returned (.int .u32 (wd (rotr x 11))) ∧ w = w' := by
  go_enter Try.func26, Try.ntmps26
  go_wp2
  go_ret
  exact ⟨ret_int (rot_spell11 x).2, rfl⟩
theorem srturn_11 (x : UInt32) (w : World) : Calls Try.prog 26 #[.int .u32 (wd x), .int .u64 11] w fun e w'' => e = .returned (.int .u32 (wd (rotr x 11))) ∧ w'' = w := (rturn_11 x w).mono fun _ _ h => ⟨h.1, h.2.symm⟩
theorem orturn_11 (x : UInt32) (w n : World) : Calls Try.prog 26 #[.int .u32 (wd x), .int .u64 11] (World.over w n) fun e w'' => e = .returned (.int .u32 (wd (rotr x 11))) ∧ ∃ m, w'' = World.over w m := over_same (rturn_11 x _)
theorem rot_spell13 (x : UInt32) : bits .or .u32 (wd x * 524288 % 4294967296) (wd x / 8192) = wd (rotr x 13) ∧ bits .or .u32 (wd x / 8192) (wd x * 524288 % 4294967296) = wd (rotr x 13) := by
  have h1 := wd_shl x 19 (by omega)
  have h2 := wd_shr x 13 (by omega)
  rw [show ((2 ^ 19 : Nat) : Int) = 524288 from rfl] at h1
  rw [show ((2 ^ 13 : Nat) : Int) = 8192 from rfl] at h2
  rw [h1, h2, wd_or, wd_or]
  exact ⟨by rw [UInt32.or_comm]; rfl, rfl⟩
set_option maxHeartbeats 400000 in
theorem rot_13 (x : UInt32) (w : World) :
    Calls Try.prog 47 #[.int .u32 (wd x), .int .i64 (-13)] w fun e w' => e = .returned (.int .u32 (wd (rotr x 13))) ∧ w = w' := by
  have hs : bits BinOp.and IntKind.u64 (IntKind.u64.wrap (-13)) 31 = 19 := by decide
  go_enter Try.func47, Try.ntmps47
  go_wp2
  go_ret
  exact ⟨ret_int (rot_spell13 x).1, rfl⟩
theorem orot_13 (x : UInt32) (w n : World) : Calls Try.prog 47 #[.int .u32 (wd x), .int .i64 (-13)] (World.over w n) fun e w'' => e = .returned (.int .u32 (wd (rotr x 13))) ∧ ∃ m, w'' = World.over w m := over_same (rot_13 x _)
set_option maxHeartbeats 400000 in
theorem rturn_13 (x : UInt32) (w : World) :
    Calls Try.prog 26 #[.int .u32 (wd x), .int .u64 13] w fun e w' => e = .returned (.int .u32 (wd (rotr x 13))) ∧ w = w' := by
  go_enter Try.func26, Try.ntmps26
  go_wp2
  go_ret
  exact ⟨ret_int (rot_spell13 x).2, rfl⟩
theorem srturn_13 (x : UInt32) (w : World) : Calls Try.prog 26 #[.int .u32 (wd x), .int .u64 13] w fun e w'' => e = .returned (.int .u32 (wd (rotr x 13))) ∧ w'' = w := (rturn_13 x w).mono fun _ _ h => ⟨h.1, h.2.symm⟩
theorem orturn_13 (x : UInt32) (w n : World) : Calls Try.prog 26 #[.int .u32 (wd x), .int .u64 13] (World.over w n) fun e w'' => e = .returned (.int .u32 (wd (rotr x 13))) ∧ ∃ m, w'' = World.over w m := over_same (rturn_13 x _)
theorem rot_spell17 (x : UInt32) : bits .or .u32 (wd x * 32768 % 4294967296) (wd x / 131072) = wd (rotr x 17) ∧ bits .or .u32 (wd x / 131072) (wd x * 32768 % 4294967296) = wd (rotr x 17) := by
  have h1 := wd_shl x 15 (by omega)
  have h2 := wd_shr x 17 (by omega)
  rw [show ((2 ^ 15 : Nat) : Int) = 32768 from rfl] at h1
  rw [show ((2 ^ 17 : Nat) : Int) = 131072 from rfl] at h2
  rw [h1, h2, wd_or, wd_or]
  exact ⟨by rw [UInt32.or_comm]; rfl, rfl⟩
set_option maxHeartbeats 400000 in
theorem rot_17 (x : UInt32) (w : World) :
    Calls Try.prog 47 #[.int .u32 (wd x), .int .i64 (-17)] w fun e w' => e = .returned (.int .u32 (wd (rotr x 17))) ∧ w = w' := by
  have hs : bits BinOp.and IntKind.u64 (IntKind.u64.wrap (-17)) 31 = 15 := by decide
  go_enter Try.func47, Try.ntmps47
  go_wp2
  go_ret
  exact ⟨ret_int (rot_spell17 x).1, rfl⟩
theorem orot_17 (x : UInt32) (w n : World) : Calls Try.prog 47 #[.int .u32 (wd x), .int .i64 (-17)] (World.over w n) fun e w'' => e = .returned (.int .u32 (wd (rotr x 17))) ∧ ∃ m, w'' = World.over w m := over_same (rot_17 x _)
set_option maxHeartbeats 400000 in
theorem rturn_17 (x : UInt32) (w : World) :
    Calls Try.prog 26 #[.int .u32 (wd x), .int .u64 17] w fun e w' => e = .returned (.int .u32 (wd (rotr x 17))) ∧ w = w' := by
  go_enter Try.func26, Try.ntmps26
  go_wp2
  go_ret
  exact ⟨ret_int (rot_spell17 x).2, rfl⟩
theorem srturn_17 (x : UInt32) (w : World) : Calls Try.prog 26 #[.int .u32 (wd x), .int .u64 17] w fun e w'' => e = .returned (.int .u32 (wd (rotr x 17))) ∧ w'' = w := (rturn_17 x w).mono fun _ _ h => ⟨h.1, h.2.symm⟩
theorem orturn_17 (x : UInt32) (w n : World) : Calls Try.prog 26 #[.int .u32 (wd x), .int .u64 17] (World.over w n) fun e w'' => e = .returned (.int .u32 (wd (rotr x 17))) ∧ ∃ m, w'' = World.over w m := over_same (rturn_17 x _)
theorem rot_spell18 (x : UInt32) : bits .or .u32 (wd x * 16384 % 4294967296) (wd x / 262144) = wd (rotr x 18) ∧ bits .or .u32 (wd x / 262144) (wd x * 16384 % 4294967296) = wd (rotr x 18) := by
  have h1 := wd_shl x 14 (by omega)
  have h2 := wd_shr x 18 (by omega)
  rw [show ((2 ^ 14 : Nat) : Int) = 16384 from rfl] at h1
  rw [show ((2 ^ 18 : Nat) : Int) = 262144 from rfl] at h2
  rw [h1, h2, wd_or, wd_or]
  exact ⟨by rw [UInt32.or_comm]; rfl, rfl⟩
set_option maxHeartbeats 400000 in
theorem rot_18 (x : UInt32) (w : World) :
    Calls Try.prog 47 #[.int .u32 (wd x), .int .i64 (-18)] w fun e w' => e = .returned (.int .u32 (wd (rotr x 18))) ∧ w = w' := by
  have hs : bits BinOp.and IntKind.u64 (IntKind.u64.wrap (-18)) 31 = 14 := by decide
  go_enter Try.func47, Try.ntmps47
  go_wp2
  go_ret
  exact ⟨ret_int (rot_spell18 x).1, rfl⟩
theorem orot_18 (x : UInt32) (w n : World) : Calls Try.prog 47 #[.int .u32 (wd x), .int .i64 (-18)] (World.over w n) fun e w'' => e = .returned (.int .u32 (wd (rotr x 18))) ∧ ∃ m, w'' = World.over w m := over_same (rot_18 x _)
set_option maxHeartbeats 400000 in
theorem rturn_18 (x : UInt32) (w : World) :
    Calls Try.prog 26 #[.int .u32 (wd x), .int .u64 18] w fun e w' => e = .returned (.int .u32 (wd (rotr x 18))) ∧ w = w' := by
  go_enter Try.func26, Try.ntmps26
  go_wp2
  go_ret
  exact ⟨ret_int (rot_spell18 x).2, rfl⟩
theorem srturn_18 (x : UInt32) (w : World) : Calls Try.prog 26 #[.int .u32 (wd x), .int .u64 18] w fun e w'' => e = .returned (.int .u32 (wd (rotr x 18))) ∧ w'' = w := (rturn_18 x w).mono fun _ _ h => ⟨h.1, h.2.symm⟩
theorem orturn_18 (x : UInt32) (w n : World) : Calls Try.prog 26 #[.int .u32 (wd x), .int .u64 18] (World.over w n) fun e w'' => e = .returned (.int .u32 (wd (rotr x 18))) ∧ ∃ m, w'' = World.over w m := over_same (rturn_18 x _)
theorem rot_spell19 (x : UInt32) : bits .or .u32 (wd x * 8192 % 4294967296) (wd x / 524288) = wd (rotr x 19) ∧ bits .or .u32 (wd x / 524288) (wd x * 8192 % 4294967296) = wd (rotr x 19) := by
  have h1 := wd_shl x 13 (by omega)
  have h2 := wd_shr x 19 (by omega)
  rw [show ((2 ^ 13 : Nat) : Int) = 8192 from rfl] at h1
  rw [show ((2 ^ 19 : Nat) : Int) = 524288 from rfl] at h2
  rw [h1, h2, wd_or, wd_or]
  exact ⟨by rw [UInt32.or_comm]; rfl, rfl⟩
set_option maxHeartbeats 400000 in
theorem rot_19 (x : UInt32) (w : World) :
    Calls Try.prog 47 #[.int .u32 (wd x), .int .i64 (-19)] w fun e w' => e = .returned (.int .u32 (wd (rotr x 19))) ∧ w = w' := by
  have hs : bits BinOp.and IntKind.u64 (IntKind.u64.wrap (-19)) 31 = 13 := by decide
  go_enter Try.func47, Try.ntmps47
  go_wp2
  go_ret
  exact ⟨ret_int (rot_spell19 x).1, rfl⟩
theorem orot_19 (x : UInt32) (w n : World) : Calls Try.prog 47 #[.int .u32 (wd x), .int .i64 (-19)] (World.over w n) fun e w'' => e = .returned (.int .u32 (wd (rotr x 19))) ∧ ∃ m, w'' = World.over w m := over_same (rot_19 x _)
set_option maxHeartbeats 400000 in
theorem rturn_19 (x : UInt32) (w : World) :
    Calls Try.prog 26 #[.int .u32 (wd x), .int .u64 19] w fun e w' => e = .returned (.int .u32 (wd (rotr x 19))) ∧ w = w' := by
  go_enter Try.func26, Try.ntmps26
  go_wp2
  go_ret
  exact ⟨ret_int (rot_spell19 x).2, rfl⟩
theorem srturn_19 (x : UInt32) (w : World) : Calls Try.prog 26 #[.int .u32 (wd x), .int .u64 19] w fun e w'' => e = .returned (.int .u32 (wd (rotr x 19))) ∧ w'' = w := (rturn_19 x w).mono fun _ _ h => ⟨h.1, h.2.symm⟩
theorem orturn_19 (x : UInt32) (w n : World) : Calls Try.prog 26 #[.int .u32 (wd x), .int .u64 19] (World.over w n) fun e w'' => e = .returned (.int .u32 (wd (rotr x 19))) ∧ ∃ m, w'' = World.over w m := over_same (rturn_19 x _)
theorem rot_spell22 (x : UInt32) : bits .or .u32 (wd x * 1024 % 4294967296) (wd x / 4194304) = wd (rotr x 22) ∧ bits .or .u32 (wd x / 4194304) (wd x * 1024 % 4294967296) = wd (rotr x 22) := by
  have h1 := wd_shl x 10 (by omega)
  have h2 := wd_shr x 22 (by omega)
  rw [show ((2 ^ 10 : Nat) : Int) = 1024 from rfl] at h1
  rw [show ((2 ^ 22 : Nat) : Int) = 4194304 from rfl] at h2
  rw [h1, h2, wd_or, wd_or]
  exact ⟨by rw [UInt32.or_comm]; rfl, rfl⟩
set_option maxHeartbeats 400000 in
theorem rot_22 (x : UInt32) (w : World) :
    Calls Try.prog 47 #[.int .u32 (wd x), .int .i64 (-22)] w fun e w' => e = .returned (.int .u32 (wd (rotr x 22))) ∧ w = w' := by
  have hs : bits BinOp.and IntKind.u64 (IntKind.u64.wrap (-22)) 31 = 10 := by decide
  go_enter Try.func47, Try.ntmps47
  go_wp2
  go_ret
  exact ⟨ret_int (rot_spell22 x).1, rfl⟩
theorem orot_22 (x : UInt32) (w n : World) : Calls Try.prog 47 #[.int .u32 (wd x), .int .i64 (-22)] (World.over w n) fun e w'' => e = .returned (.int .u32 (wd (rotr x 22))) ∧ ∃ m, w'' = World.over w m := over_same (rot_22 x _)
set_option maxHeartbeats 400000 in
theorem rturn_22 (x : UInt32) (w : World) :
    Calls Try.prog 26 #[.int .u32 (wd x), .int .u64 22] w fun e w' => e = .returned (.int .u32 (wd (rotr x 22))) ∧ w = w' := by
  go_enter Try.func26, Try.ntmps26
  go_wp2
  go_ret
  exact ⟨ret_int (rot_spell22 x).2, rfl⟩
theorem srturn_22 (x : UInt32) (w : World) : Calls Try.prog 26 #[.int .u32 (wd x), .int .u64 22] w fun e w'' => e = .returned (.int .u32 (wd (rotr x 22))) ∧ w'' = w := (rturn_22 x w).mono fun _ _ h => ⟨h.1, h.2.symm⟩
theorem orturn_22 (x : UInt32) (w n : World) : Calls Try.prog 26 #[.int .u32 (wd x), .int .u64 22] (World.over w n) fun e w'' => e = .returned (.int .u32 (wd (rotr x 22))) ∧ ∃ m, w'' = World.over w m := over_same (rturn_22 x _)
theorem rot_spell25 (x : UInt32) : bits .or .u32 (wd x * 128 % 4294967296) (wd x / 33554432) = wd (rotr x 25) ∧ bits .or .u32 (wd x / 33554432) (wd x * 128 % 4294967296) = wd (rotr x 25) := by
  have h1 := wd_shl x 7 (by omega)
  have h2 := wd_shr x 25 (by omega)
  rw [show ((2 ^ 7 : Nat) : Int) = 128 from rfl] at h1
  rw [show ((2 ^ 25 : Nat) : Int) = 33554432 from rfl] at h2
  rw [h1, h2, wd_or, wd_or]
  exact ⟨by rw [UInt32.or_comm]; rfl, rfl⟩
set_option maxHeartbeats 400000 in
theorem rot_25 (x : UInt32) (w : World) :
    Calls Try.prog 47 #[.int .u32 (wd x), .int .i64 (-25)] w fun e w' => e = .returned (.int .u32 (wd (rotr x 25))) ∧ w = w' := by
  have hs : bits BinOp.and IntKind.u64 (IntKind.u64.wrap (-25)) 31 = 7 := by decide
  go_enter Try.func47, Try.ntmps47
  go_wp2
  go_ret
  exact ⟨ret_int (rot_spell25 x).1, rfl⟩
theorem orot_25 (x : UInt32) (w n : World) : Calls Try.prog 47 #[.int .u32 (wd x), .int .i64 (-25)] (World.over w n) fun e w'' => e = .returned (.int .u32 (wd (rotr x 25))) ∧ ∃ m, w'' = World.over w m := over_same (rot_25 x _)
set_option maxHeartbeats 400000 in
theorem rturn_25 (x : UInt32) (w : World) :
    Calls Try.prog 26 #[.int .u32 (wd x), .int .u64 25] w fun e w' => e = .returned (.int .u32 (wd (rotr x 25))) ∧ w = w' := by
  go_enter Try.func26, Try.ntmps26
  go_wp2
  go_ret
  exact ⟨ret_int (rot_spell25 x).2, rfl⟩
theorem srturn_25 (x : UInt32) (w : World) : Calls Try.prog 26 #[.int .u32 (wd x), .int .u64 25] w fun e w'' => e = .returned (.int .u32 (wd (rotr x 25))) ∧ w'' = w := (rturn_25 x w).mono fun _ _ h => ⟨h.1, h.2.symm⟩
theorem orturn_25 (x : UInt32) (w n : World) : Calls Try.prog 26 #[.int .u32 (wd x), .int .u64 25] (World.over w n) fun e w'' => e = .returned (.int .u32 (wd (rotr x 25))) ∧ ∃ m, w'' = World.over w m := over_same (rturn_25 x _)
end Go.Proofs.Ytdglhonogopciaa
