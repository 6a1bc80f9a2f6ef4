/- bmap.Glue: the contract. -/
import Derived.Test.YtklckjmlifddjaaConcat
import Derived.Test.YtklckjmlifddjaaStr
import Derived.Test.YtklckjmlifddjaaBmap
namespace Go.Proofs.Ytklckjmlifddjaa
open Go.RowKit

set_option maxRecDepth 100000 in
set_option maxHeartbeats 1000000 in
theorem glue_no (n cap : Nat) (a : Option Addr) (ls : List (List UInt8)) (size : Int) (w : World) (hL : LL w a n cap ls) (hn : n ≤ 100000) (hl : ls.flatten.length ≤ 1000000) (hsz : size ≤ 1000000) (hno : ¬ (n : Int) = blk size ∨ ¬ (ls.flatten.length : Int) = size) :
    Calls Try.prog 7 #[.slice a n cap, .int .i64 size] w fun e w' => (∃ v, e = .returned (.tuple #[v, .int .i64 12])) ∧ Below w.heap.size w w' := by
  have HC := Lib.hid (concat_any n cap a ls w hL hn hl)
  have HB := Lib.hid (fun w => blocks_any size w (by omega))
  generalize hF : ls.flatten.length = F at *
  generalize hK : blk size = K at *
  have HF := Lib.hid hF
  clear hF hK hL hsz
  go_enter Try.func7, Try.ntmps7
  go_wp2_with fail
  refine HC.out.mono ?_
  rintro e w1 ⟨v, rfl, ho, hb⟩
  obtain ⟨a1, c1, rfl, hB1⟩ := ho.bsn HF.out
  have hFb := hB1.2.1
  clear ho hB1
  go_wp2_with fail
  refine (HB.out _).mono ?_
  rintro e w2 ⟨rfl, rfl⟩
  by_cases h1 : (n : Int) = K
  · subst h1
    have h2 : ¬ (F : Int) = size := by rcases hno with h | h; exact absurd rfl h; exact h
    clear hno
    go_wp2_with fail
    go_ret2
    exact ⟨⟨_, rfl⟩, hb⟩
  · clear hno
    go_wp2_with fail
    go_ret2
    exact ⟨⟨_, rfl⟩, hb⟩

set_option maxRecDepth 100000 in
set_option maxHeartbeats 1000000 in
theorem glue_ok (n cap : Nat) (a : Option Addr) (ls : List (List UInt8)) (F : Nat) (w : World) (hL : LL w a n cap ls) (hn : n ≤ 100000) (hF : ls.flatten.length = F) (hl : F ≤ 1000000) (hs : (n : Int) = blk (F : Int)) (h128 : ∀ i, i + 1 < n → (ls.getD i []).length = 128) :
    Calls Try.prog 7 #[.slice a n cap, .int .i64 (F : Int)] w fun e w' => ∃ v, e = .returned (.tuple #[v, .int .i64 0]) ∧ Own w' w.heap.size v ls.flatten ∧ Below w.heap.size w w' := by
  have HC := Lib.hid (concat_any n cap a ls w hL hn (by omega))
  have HB := Lib.hid (fun w => blocks_any (F : Int) w (by omega))
  rw [← hs] at HB
  have HL := Lib.hid hL
  have HF := Lib.hid hF
  have H128 := Lib.hid h128
  clear hs hL hF h128
  go_enter Try.func7, Try.ntmps7
  go_wp2_with fail
  refine HC.out.mono ?_
  rintro e w1 ⟨v, rfl, ho, hb⟩
  obtain ⟨a1, c1, rfl, hB1⟩ := ho.bsn HF.out
  have hFb := hB1.2.1
  have HO := Lib.hid ho
  have HBl := Lib.hid hb
  have HL1 := Lib.hid (HL.out.below hb)
  clear ho hB1 hb HC HL
  go_wp2_with fail
  refine (HB.out _).mono ?_
  rintro e w2 ⟨rfl, rfl⟩
  clear HB
  go_wp2_with fail
  go_loopw [24] (fun i wr => ∃ k : Nat, k ≤ n ∧ i = .int .i64 k ∧ wr = w1) (fun i _ => n - (intOf i).toNat)
  case atStart => exact ⟨0, by omega, rfl, rfl⟩
  case round =>
    obtain ⟨k, hk, rfl, rfl⟩ := hrel
    by_cases hlt : k < n
    · obtain ⟨b, off, rfl, hbw, hc⟩ := HL1.out.at (by omega)
      obtain ⟨a', m, c, hcell, hB⟩ := hc k hlt
      have hm : (k : Int) < (n : Int) - 1 → m = 128 := fun h => by rw [← hB.1]; exact H128.out k (by omega)
      have HM := Lib.hid hm
      clear hc hB hm
      have e1 : (0 : Int) ≤ (k : Int) := by omega
      have e2 : (k : Int) < (n : Int) := by omega
      have e3 : IntKind.i64.wrap ((n : Int) - 1) = (n : Int) - 1 := IntWalk.i64_in _ (by omega)
      by_cases hlast : (k : Int) < (n : Int) - 1
      · obtain rfl := HM.out hlast
        go_wp2_with fail
        go_roundw
        case rel => exact ⟨k + 1, by omega, by go_num, trivial⟩
        case measure => simp [intOf]; omega
      · go_wp2_with fail
        go_roundw
        case rel => exact ⟨k + 1, by omega, by go_num, trivial⟩
        case measure => simp [intOf]; omega
    · obtain rfl : k = n := by omega
      go_wp2_with fail
      go_ret2
      exact ⟨_, rfl, HO.out, HBl.out⟩
end Go.Proofs.Ytklckjmlifddjaa
