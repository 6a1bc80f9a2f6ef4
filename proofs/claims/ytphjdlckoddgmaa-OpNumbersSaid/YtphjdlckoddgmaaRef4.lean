/- Contracts of permafrostref4: bytes behind bytes. -/
import Derived.Test.YtphjdlckoddgmaaCodecUse
namespace Go.Proofs.Ytphjdlckoddgmaa
open Go.RowKit

theorem Own.blk {w : World} {B : Nat} {v : Value} {xs : List UInt8} (h : Own w B v xs) : ∀ k, v.ownBlock = some k → B ≤ k := by
  intro k hk
  rcases h.parts with ⟨rfl, _⟩ | ⟨g, c, rfl, h1, _⟩
  · simp [Value.ownBlock] at hk
  · simp [Value.ownBlock] at hk; omega
theorem Own.empty (w : World) : Own (w.alloc (.cells #[] TB)) w.heap.size (.slice (some ⟨w.heap.size, 0, none⟩) 0 0) [] := Own.of_row (Row.made w #[] 0 0 [] rfl rfl (by omega) (by simp [maxLen]) rfl) (Nat.le_refl _)

theorem ref_byte_int (a : Option Addr) (len cap : Nat) (xs : List UInt8) (n : Int) (w : World) (h : Bs w a len cap xs) (hl : len + 8 ≤ big) :
    Calls Try.prog 30 #[.slice a len cap, .int .i64 n] w fun e w' => ∃ v, e = .returned v ∧ Own w' w.heap.size v (xs ++ [UInt8.ofNat (n % 256).toNat]) ∧ Below w.heap.size w w' := by
  have hxl := h.1
  have hO := Own.empty w
  go_enter Try.func30, Try.ntmps30
  go_wp2_with (at_builtin; refine wpList_append_bytes rfl _ _ rfl (w.heap.size) _ [] rfl hO a len cap xs rfl (h.alloc _) ?h3 (by simp) ?hk)
  case h3 => unfold big at hl; simp; omega
  intro v1 w1 hown hg _
  have hE := ((Ext.refl w).alloc (.cells #[] TB)).grown hg hO.blk
  clear hg h hO
  have hC := Lib.hid (show (#[.int .u8 (n % 256)] : Array Value).toList.take 1 = [UInt8.ofNat (n % 256).toNat].map bv by simp [bv, UInt8.toNat_ofNat']; omega)
  go_wp2_with (at_builtin; refine wpList_append_bytes rfl _ _ rfl (w.heap.size) v1 xs rfl (hown.alloc _) _ 1 1 [UInt8.ofNat (n % 256).toNat] rfl (Bs.newRow _ _ _ _ _ _ _ rfl (Nat.le_refl _) ?g1 ?g2) ?g3 ?g4 ?gk)
  case g3 => unfold big at hl; omega
  case g1 => simp [maxLen]
  case g2 => have := hC.out; simpa using this
  case g4 => have := hE.2; simp; omega
  intro v2 w2 hown2 hg2 _
  have hE2 := (hE.alloc (.cells #[.int .u8 (n % 256)] TB)).grown hg2 hown.blk
  clear hown hg2 hE
  go_wp2_with fail
  go_ret
  exact ⟨_, rfl, hown2, hE2.1⟩

theorem ref_byte (a : Option Addr) (len cap : Nat) (xs : List UInt8) (n : Nat) (w : World) (h : Bs w a len cap xs) (hl : len + 8 ≤ big) :
    Calls Try.prog 30 #[.slice a len cap, .int .i64 (n : Int)] w fun e w' => ∃ v, e = .returned v ∧ Own w' w.heap.size v (xs ++ be n 1) ∧ Below w.heap.size w w' := by
  have e : be n 1 = [UInt8.ofNat ((n : Int) % 256).toNat] := by
    simp only [be, Nat.pow_zero, Nat.div_one]
    congr 1
    exact UInt8.toNat_inj.1 (by simp [UInt8.toNat_ofNat']; omega)
  rw [e]
  exact ref_byte_int a len cap xs n w h hl

theorem ref_short (a : Option Addr) (len cap : Nat) (xs : List UInt8) (n : Nat) (w : World) (h : Bs w a len cap xs) (hl : len + 8 ≤ big) :
    Calls Try.prog 35 #[.slice a len cap, .int .i64 (n : Int)] w fun e w' => ∃ v, e = .returned v ∧ Own w' w.heap.size v (xs ++ be n 2) ∧ Below w.heap.size w w' := by
  have hxl := h.1
  have hO := Own.empty w
  go_enter Try.func35, Try.ntmps35
  go_wp2_with (at_builtin; refine wpList_append_bytes rfl _ _ rfl (w.heap.size) _ [] rfl hO a len cap xs rfl (h.alloc _) ?h3 (by simp) ?hk)
  case h3 => unfold big at hl; simp; omega
  intro v1 w1 hown hg _
  have hE := ((Ext.refl w).alloc (.cells #[] TB)).grown hg hO.blk
  clear hg h hO
  have hC := Lib.hid (show (#[.int .u8 ((n : Int) / 256 % 256), .int .u8 ((n : Int) % 256)] : Array Value).toList.take 2 = [UInt8.ofNat (n / 256), UInt8.ofNat n].map bv by simp [bv, UInt8.toNat_ofNat'])
  go_wp2_with (at_builtin; refine wpList_append_bytes rfl _ _ rfl (w.heap.size) v1 xs rfl (hown.alloc _) _ 2 2 [UInt8.ofNat (n / 256), UInt8.ofNat n] rfl (Bs.newRow _ _ _ _ _ _ _ rfl (Nat.le_refl _) ?g1 ?g2) ?g3 ?g4 ?gk)
  case g3 => unfold big at hl; omega
  case g1 => simp [maxLen]
  case g2 => have := hC.out; simpa using this
  case g4 => have := hE.2; simp; omega
  intro v2 w2 hown2 hg2 _
  have hE2 := (hE.alloc (.cells #[.int .u8 ((n : Int) / 256 % 256), .int .u8 ((n : Int) % 256)] TB)).grown hg2 hown.blk
  clear hown hg2 hE
  go_wp2_with fail
  go_ret
  exact ⟨_, rfl, by simpa [be] using hown2, hE2.1⟩

theorem ref_long (a : Option Addr) (len cap : Nat) (xs : List UInt8) (n : Nat) (w : World) (h : Bs w a len cap xs) (hl : len + 8 ≤ big) :
    Calls Try.prog 37 #[.slice a len cap, .int .u64 (n : Int)] w fun e w' => ∃ v, e = .returned v ∧ Own w' w.heap.size v (xs ++ be n 8) ∧ Below w.heap.size w w' := by
  have hxl := h.1
  have hO := Own.empty w
  go_enter Try.func37, Try.ntmps37
  go_wp2_with (at_builtin; refine wpList_append_bytes rfl _ _ rfl (w.heap.size) _ [] rfl hO a len cap xs rfl (h.alloc _) ?h3 (by simp) ?hk)
  case h3 => unfold big at hl; simp; omega
  intro v1 w1 hown hg _
  have hE := ((Ext.refl w).alloc (.cells #[] TB)).grown hg hO.blk
  clear hg h hO
  go_wp2_with fail
  go_loopw [5, 6] (fun x i wr => ∃ k : Nat, ∃ done : List UInt8, k ≤ 8 ∧ i = .int .i64 (8 * (k : Int) - 8) ∧ done ++ be n k = be n 8 ∧ Own wr w.heap.size x (xs ++ done) ∧ Ext w.heap.size w wr) (fun _ i _ => (intOf i + 8).toNat)
  case atStart => exact ⟨8, [], by omega, rfl, rfl, by simpa using hown, hE⟩
  case round =>
    obtain ⟨k, done, hk, rfl, hd, hO1, hE1⟩ := hrel
    clear hown hE
    by_cases hk0 : 0 < k
    · obtain ⟨j, rfl⟩ : ∃ j, k = j + 1 := ⟨k - 1, by omega⟩
      rw [show (8 * ((j + 1 : Nat) : Int) - 8) = 8 * (j : Int) by omega]
      have hdl : done.length + (j + 1) = 8 := by have := congrArg List.length hd; simpa [be_length] using this
      have hw8 : IntKind.u64.wrap (8 * (j : Int)) = 8 * (j : Int) := by rw [IntKind.wrap_u64]; omega
      have hC := Lib.hid (show (#[.int .u8 ((n : Int) / 2 ^ (8 * j) % 256)] : Array Value).toList.take 1 = [UInt8.ofNat (n / 256 ^ j)].map bv by
        have e2 : ((n : Int) / 2 ^ (8 * j)) = ((n / 256 ^ j : Nat) : Int) := by rw [show (256 : Nat) = 2 ^ 8 by decide, ← Nat.pow_mul]; simp
        rw [e2]
        simp [bv, UInt8.toNat_ofNat'])
      go_wp2_with (at_builtin; refine wpList_append_bytes rfl _ _ rfl (w.heap.size) _ (xs ++ done) rfl (hO1.alloc _) _ 1 1 [UInt8.ofNat (n / 256 ^ j)] rfl (Bs.newRow _ _ _ _ _ _ _ rfl (Nat.le_refl _) ?g1 ?g2) ?g3 ?g4 ?gk)
      case g3 => unfold big at hl; omega
      case g1 => simp [maxLen]
      case g2 => have := hC.out; simpa using this
      case g4 => have := hE1.2; simp; omega
      intro v2 w2 hown2 hg2 _
      have hE2 := (hE1.alloc (.cells #[.int .u8 ((n : Int) / 2 ^ (8 * j) % 256)] TB)).grown hg2 hO1.blk
      clear hg2 hO1 hE1
      go_wp2_with fail
      go_roundw
      case rel => exact ⟨j, done ++ [UInt8.ofNat (n / 256 ^ j)], by omega, rfl, by rw [← hd]; simp [be], hown2, hE2⟩
      case measure => simp [intOf]; omega
    · obtain rfl : k = 0 := by omega
      have hd' : done = be n 8 := by simpa [be] using hd
      subst hd'
      go_wp2_with fail
      go_ret
      exact ⟨_, rfl, hO1, hE1.1⟩

set_option maxRecDepth 100000 in
theorem ref_bytes (a : Option Addr) (len cap : Nat) (xs : List UInt8) (a2 : Option Addr) (len2 cap2 : Nat) (ys : List UInt8) (w : World) (h : Bs w a len cap xs) (h2 : Bs w a2 len2 cap2 ys) (hl : len + 65545 ≤ big) :
    Calls Try.prog 32 #[.slice a len cap, .slice a2 len2 cap2] w fun e w' => ∃ v, e = .returned v ∧ Own w' w.heap.size v (xs ++ lenBytes ys) ∧ Below w.heap.size w w' := by
  have hxl := h.1
  have hyl := h2.1
  have hT := h2.take (k := min len2 65535) (by omega)
  have hle : lenBytes ys = be (min len2 65535) 2 ++ ys.take (min len2 65535) := by unfold lenBytes; rw [hyl, List.take_eq_take_iff.2 (show min 65535 ys.length = min (min len2 65535) ys.length by omega)]
  have HL := Lib.hid hle
  have hlc := h2.2.1
  clear hle h2
  generalize ys.take (min len2 65535) = zs at *
  have HS := Lib.hid (ref_short a len cap xs (min len2 65535) w h (by omega))
  by_cases hlt : 65535 < len2
  · rw [Nat.min_eq_right (by omega)] at hT HL HS
    go_enter Try.func32, Try.ntmps32
    go_wp2_with fail
    refine HS.out.mono ?_
    rintro e w1 ⟨v1, rfl, ho1, hb1⟩
    have hE1 := (Ext.refl w).step hb1
    have hT1 := hT.below hb1
    clear h HS hb1 hT
    go_wp2_with (at_builtin; refine wpList_append_bytes rfl _ _ rfl (w.heap.size) v1 _ rfl ho1 _ _ _ zs rfl hT1 ?g3 ?g4 ?gk)
    case g3 => unfold big at hl; simp [be_length]; omega
    case g4 => exact hE1.2
    intro v2 w2 hown2 hg2 _
    have hE2 := hE1.grown hg2 ho1.blk
    clear hg2 ho1 hE1
    go_wp2_with fail
    go_ret
    exact ⟨_, rfl, by rw [HL.out]; simpa using hown2, hE2.1⟩
  · rw [Nat.min_eq_left (by omega)] at hT HL HS
    go_enter Try.func32, Try.ntmps32
    go_wp2_with fail
    refine HS.out.mono ?_
    rintro e w1 ⟨v1, rfl, ho1, hb1⟩
    have hE1 := (Ext.refl w).step hb1
    have hT1 := hT.below hb1
    clear h HS hb1 hT
    go_wp2_with (at_builtin; refine wpList_append_bytes rfl _ _ rfl (w.heap.size) v1 _ rfl ho1 _ _ _ zs rfl hT1 ?g5 ?g6 ?gl)
    case g5 => unfold big at hl; simp [be_length]; omega
    case g6 => exact hE1.2
    intro v2 w2 hown2 hg2 _
    have hE2 := hE1.grown hg2 ho1.blk
    clear hg2 ho1 hE1
    go_wp2_with fail
    go_ret
    exact ⟨_, rfl, by rw [HL.out]; simpa using hown2, hE2.1⟩
end Go.Proofs.Ytphjdlckoddgmaa
