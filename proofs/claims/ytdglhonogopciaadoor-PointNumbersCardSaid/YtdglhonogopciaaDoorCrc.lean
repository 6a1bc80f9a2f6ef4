/- Contracts of crc.More and crc.Sum. -/
import Derived.Test.YtdglhonogopciaaDoorProg
import Derived.Test.YtdglhonogopciaaDoorCrcFns
namespace Go.Proofs.YtdglhonogopciaaDoor
open Go.RowKit

set_option maxHeartbeats 400000 in
theorem more_row (c : Nat) (b off cap : Nat) (xs : List UInt8) (w : World) (hc : c < 4294967296) (h1 : xs.length ≤ cap) (h2 : cap ≤ maxLen)
    (hcell : ∀ i (h : i < xs.length), w.cell? ⟨b, off + i, none⟩ = some (.int .u8 (xs[i].toNat : Int))) :
    Calls Tryd.prog 51 #[.int .u32 (c : Int), .slice (some ⟨b, off, none⟩) xs.length cap] w fun e w' => e = .returned (.int .u32 (crcMore c xs : Nat)) ∧ w = w' := by
  unfold maxLen at h2
  obtain ⟨d, hd⟩ : ∃ d, d = 4294967295 - c := ⟨_, rfl⟩
  have hn := not_u32 c hc
  rw [← hd] at hn
  have hdl : d < 4294967296 := by omega
  have HD := Lib.hid hd; clear hd
  go_enter Tryd.func51, Tryd.ntmps51
  go_wp2
  go_loop [0, 12] (fun t i => ∃ k : Nat, k ≤ xs.length ∧ i = .int .i64 k ∧ t = .int .u32 (crcFold d (xs.take k) : Nat)) (fun _ i => xs.length - (intOf i).toNat)
  case atStart => exact ⟨0, Nat.zero_le _, rfl, by simp [crcFold]⟩
  case round =>
    obtain ⟨k, hk, rfl, rfl⟩ := hrel
    have hf := crcFold_lt (xs.take k) hdl
    by_cases hlt : k < xs.length
    · have hcx := hcell k hlt
      have hb := (xs[k]).toNat_lt
      have HT := Lib.hid (take_snoc xs k hlt)
      obtain ⟨f, hff⟩ : ∃ f, f = crcFold d (xs.take k) := ⟨_, rfl⟩
      rw [← hff] at hf ⊢
      have hxo := u32_xor_nat f (xs[k].toNat) hf (by omega)
      obtain ⟨g, hg⟩ : ∃ g, g = f ^^^ xs[k].toNat := ⟨_, rfl⟩
      have hgl : g < 4294967296 := by rw [hg]; exact Nat.xor_lt_two_pow (n := 32) hf (by omega)
      rw [← hg] at hxo
      have HF := Lib.hid hff
      have HG := Lib.hid hg
      clear hff hg
      go_wp2
      go_loop [0, 20] (fun t i => ∃ j : Nat, j ≤ 8 ∧ i = .int .i64 j ∧ t = .int .u32 (crcBits j g : Nat)) (fun _ i => 8 - (intOf i).toNat)
      case atStart => exact ⟨0, by omega, rfl, rfl⟩
      case round =>
        obtain ⟨j, hj, rfl, rfl⟩ := hrel
        have hel := crcBits_lt (n := j) hgl
        obtain ⟨e, he⟩ : ∃ e, e = crcBits j g := ⟨_, rfl⟩
        rw [← he] at hel ⊢
        have HE := Lib.hid he; clear he
        by_cases hj8 : j < 8
        · have ha := and1_u32 e hel
          by_cases ho : e % 2 = 1
          · have hy := u32_xor_nat (e / 2) 3988292384 (by omega) (by omega)
            have hy' : bits .xor .u32 ((e : Int) / 2) 3988292384 = ((crcStep e : Nat) : Int) := by
              rw [crcStep, if_pos ho]; simpa using hy
            clear hy
            go_wp2
            go_round
            case rel => exact ⟨j + 1, by omega, by go_num, by rw [HE.out]; rfl⟩
            case measure => simp [intOf]; omega
          · have hy' : (e : Int) / 2 = ((crcStep e : Nat) : Int) := by
              rw [crcStep, if_neg ho]; simp
            have HY := Lib.hid hy'; clear hy'
            go_wp2
            go_round
            case rel => exact ⟨j + 1, by omega, by go_num, by rw [HY.out, HE.out]; rfl⟩
            case measure => simp [intOf]; omega
        · go_wp2
          go_round
          case rel => exact ⟨k + 1, by omega, by go_num, by
            rw [HE.out, HT.out, crcFold_snoc, ← HF.out, crcByte, ← HG.out]
            have : j = 8 := by omega
            rw [this]⟩
          case measure => simp [intOf]; omega
    · have hr := not_u32 _ hf
      go_wp2
      go_ret
      exact ⟨ret_int (by rw [crcMore, ← HD.out, List.take_of_length_le (by omega)]), rfl⟩

theorem more_none (c : Nat) (a : Option Addr) (cap : Nat) (w : World) (hc : c < 4294967296) :
    Calls Tryd.prog 51 #[.int .u32 (c : Int), .slice a 0 cap] w fun e w' => e = .returned (.int .u32 (crcMore c [] : Nat)) ∧ w = w' := by
  obtain ⟨d, hd⟩ : ∃ d, d = 4294967295 - c := ⟨_, rfl⟩
  have hn := not_u32 c hc
  rw [← hd] at hn
  have hdl : d < 4294967296 := by omega
  have hr := not_u32 d hdl
  have HD := Lib.hid hd; clear hd
  go_enter Tryd.func51, Tryd.ntmps51
  go_wp2
  go_loop [0, 12] (fun t i => i = .int .i64 0 ∧ t = .int .u32 d) (fun _ _ => 0)
  case atStart => exact ⟨rfl, rfl⟩
  case round =>
    obtain ⟨rfl, rfl⟩ := hrel
    go_wp2
    go_ret
    exact ⟨ret_int (by rw [crcMore, ← HD.out]; rfl), rfl⟩

theorem more_any (c : Nat) (a : Option Addr) (len cap : Nat) (xs : List UInt8) (w : World) (hc : c < 4294967296) (h : Bs w a len cap xs) :
    Calls Tryd.prog 51 #[.int .u32 (c : Int), .slice a len cap] w fun e w' => e = .returned (.int .u32 (crcMore c xs : Nat)) ∧ w = w' := by
  obtain ⟨h1, h2, h3, h4⟩ := h
  rcases h4 with rfl | ⟨b, off, rfl, h5, h6⟩
  · obtain rfl := List.length_eq_zero_iff.1 h1
    exact more_none c a cap w hc
  · subst h1
    exact more_row c b off cap xs w hc h2 h3 h6

theorem sum_any (a : Option Addr) (len cap : Nat) (xs : List UInt8) (w : World) (h : Bs w a len cap xs) :
    Calls Tryd.prog 36 #[.slice a len cap] w fun e w' => e = .returned (.int .u32 (crcMore 0 xs : Nat)) ∧ w = w' := by
  go_enter Tryd.func36, Tryd.ntmps36
  go_wp2_with fail
  refine (more_any 0 a len cap xs w (by omega) h).mono ?_
  rintro e w' ⟨rfl, rfl⟩
  go_wp2_with fail
  go_ret
  exact ⟨rfl, rfl⟩

end Go.Proofs.YtdglhonogopciaaDoor
