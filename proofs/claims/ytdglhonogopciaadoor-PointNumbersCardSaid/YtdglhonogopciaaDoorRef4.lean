/- Contracts of permafrostref4: bytes behind bytes. -/
import Derived.Test.YtdglhonogopciaaDoorCodecUse
namespace Go.Proofs.YtdglhonogopciaaDoor
open Go.RowKit

theorem Own.blk {w : World} {B : Nat} {v : Value} {xs : List UInt8} (h : Own w B v xs) : ∀ k, v.ownBlock = some k → B ≤ k := by
  intro k hk
  rcases h.parts with ⟨rfl, _⟩ | ⟨g, c, rfl, h1, _⟩
  · simp [Value.ownBlock] at hk
  · simp [Value.ownBlock] at hk; omega
theorem Own.empty (w : World) : Own (w.alloc (.cells #[] TB)) w.heap.size (.slice (some ⟨w.heap.size, 0, none⟩) 0 0) [] := Own.of_row (Row.made w #[] 0 0 [] rfl rfl (by omega) (by simp [maxLen]) rfl) (Nat.le_refl _)

theorem ref_short (a : Option Addr) (len cap : Nat) (xs : List UInt8) (n : Nat) (w : World) (h : Bs w a len cap xs) (hl : len + 8 ≤ big) :
    Calls Tryd.prog 25 #[.slice a len cap, .int .i64 (n : Int)] w fun e w' => ∃ v, e = .returned v ∧ Own w' w.heap.size v (xs ++ be n 2) ∧ Below w.heap.size w w' := by
  have hxl := h.1
  have hO := Own.empty w
  go_enter Tryd.func25, Tryd.ntmps25
  go_wp2_with (at_builtin; refine wpList_append_bytes rfl _ _ rfl (w.heap.size) _ [] rfl hO a len cap xs rfl (h.alloc _) ?h3 (by simp) ?hk)
  case h3 => unfold big at hl; simp; omega
  intro v1 w1 hown hg _
  have hE := ((Ext.refl w).alloc (.cells #[] TB)).grown hg hO.blk
  clear hg h hO
  have hC := Lib.hid (show (#[.int .u8 ((n : Int) / 256 % 256), .int .u8 ((n : Int) % 256)] : Array Value).toList.take 2 = [UInt8.ofNat (n / 256), UInt8.ofNat n].map bv by simp [bv, UInt8.toNat_ofNat'])
  go_wp2_with (at_builtin; refine wpList_append_bytes rfl _ _ rfl (w.heap.size) v1 xs rfl (hown.alloc _) _ 2 2 [UInt8.ofNat (n / 256), UInt8.ofNat n] rfl (Bs.newRow _ _ _ _ _ _ _ rfl (Nat.le_refl _) ?g1 ?g2) ?g3 ?g4 ?gk)
  case g3 => unfold big at hl; omega
  case g1 => simp [maxLen]
  case g2 => have := hC.out; simpa using this
  case g4 => have := hE.2; simp; omega
  intro v2 w2 hown2 hg2 _
  have hE2 := (hE.alloc (.cells #[.int .u8 ((n : Int) / 256 % 256), .int .u8 ((n : Int) % 256)] TB)).grown hg2 hown.blk
  clear hown hg2 hE
  go_wp2_with fail
  go_ret
  exact ⟨_, rfl, by simpa [be] using hown2, hE2.1⟩

theorem ref_sum4 (a : Option Addr) (len cap : Nat) (xs : List UInt8) (n : Nat) (w : World) (h : Bs w a len cap xs) (hl : len + 8 ≤ big) (hn : n < 4294967296) :
    Calls Tryd.prog 27 #[.slice a len cap, .int .u32 (n : Int)] w fun e w' => ∃ v, e = .returned v ∧ Own w' w.heap.size v (xs ++ be n 4) ∧ Below w.heap.size w w' := by
  have hxl := h.1
  have hO := Own.empty w
  go_enter Tryd.func27, Tryd.ntmps27
  go_wp2_with (at_builtin; refine wpList_append_bytes rfl _ _ rfl (w.heap.size) _ [] rfl hO a len cap xs rfl (h.alloc _) ?h3 (by simp) ?hk)
  case h3 => unfold big at hl; simp; omega
  intro v1 w1 hown hg _
  have hE := ((Ext.refl w).alloc (.cells #[] TB)).grown hg hO.blk
  clear hg h hO
  have hC := Lib.hid (show (#[.int .u8 ((n : Int) / 16777216), .int .u8 ((n : Int) / 65536 % 256), .int .u8 ((n : Int) / 256 % 256), .int .u8 ((n : Int) % 256)] : Array Value).toList.take 4 = [UInt8.ofNat (n / 16777216), UInt8.ofNat (n / 65536), UInt8.ofNat (n / 256), UInt8.ofNat n].map bv by simp [bv, UInt8.toNat_ofNat']; omega)
  go_wp2_with (at_builtin; refine wpList_append_bytes rfl _ _ rfl (w.heap.size) v1 xs rfl (hown.alloc _) _ 4 4 [UInt8.ofNat (n / 16777216), UInt8.ofNat (n / 65536), UInt8.ofNat (n / 256), UInt8.ofNat n] rfl (Bs.newRow _ _ _ _ _ _ _ rfl (Nat.le_refl _) ?g1 ?g2) ?g3 ?g4 ?gk)
  case g3 => unfold big at hl; omega
  case g1 => simp [maxLen]
  case g2 => have := hC.out; simpa using this
  case g4 => have := hE.2; simp; omega
  intro v2 w2 hown2 hg2 _
  have hE2 := (hE.alloc (.cells #[.int .u8 ((n : Int) / 16777216), .int .u8 ((n : Int) / 65536 % 256), .int .u8 ((n : Int) / 256 % 256), .int .u8 ((n : Int) % 256)] TB)).grown hg2 hown.blk
  clear hown hg2 hE
  go_wp2_with fail
  go_ret
  exact ⟨_, rfl, by simpa [be] using hown2, hE2.1⟩

theorem ref_long (a : Option Addr) (len cap : Nat) (xs : List UInt8) (n : Nat) (w : World) (h : Bs w a len cap xs) (hl : len + 8 ≤ big) :
    Calls Tryd.prog 26 #[.slice a len cap, .int .u64 (n : Int)] w fun e w' => ∃ v, e = .returned v ∧ Own w' w.heap.size v (xs ++ be n 8) ∧ Below w.heap.size w w' := by
  have hxl := h.1
  have hO := Own.empty w
  go_enter Tryd.func26, Tryd.ntmps26
  go_wp2_with (at_builtin; refine wpList_append_bytes rfl _ _ rfl (w.heap.size) _ [] rfl hO a len cap xs rfl (h.alloc _) ?h3 (by simp) ?hk)
  case h3 => unfold big at hl; simp; omega
  intro v1 w1 hown hg _
  have hE := ((Ext.refl w).alloc (.cells #[] TB)).grown hg hO.blk
  clear hg h hO
  go_wp2_with fail
  go_loopw [5, 6] (fun x i wr => ∃ k : Nat, ∃ done : List UInt8, k ≤ 8 ∧ i = .int .i64 (8 * (k : Int) - 8) ∧ done ++ be n k = be n 8 ∧ Own wr w.heap.size x (xs ++ done) ∧ Ext w.heap.size w wr) (fun _ i _ => (intOf i + 8).toNat)
  case atStart => exact ⟨8, [], by omega, rfl, rfl, by simpa using hown, hE⟩
  case round =>
    obtain ⟨k, done, hk, rfl, hd, hO1, hE1⟩ := hrel
    clear hown hE
    by_cases hk0 : 0 < k
    · obtain ⟨j, rfl⟩ : ∃ j, k = j + 1 := ⟨k - 1, by omega⟩
      rw [show (8 * ((j + 1 : Nat) : Int) - 8) = 8 * (j : Int) by omega]
      have hdl : done.length + (j + 1) = 8 := by have := congrArg List.length hd; simpa [be_length] using this
      have hw8 : IntKind.u64.wrap (8 * (j : Int)) = 8 * (j : Int) := by rw [IntKind.wrap_u64]; omega
      have hC := Lib.hid (show (#[.int .u8 ((n : Int) / 2 ^ (8 * j) % 256)] : Array Value).toList.take 1 = [UInt8.ofNat (n / 256 ^ j)].map bv by
        have e2 : ((n : Int) / 2 ^ (8 * j)) = ((n / 256 ^ j : Nat) : Int) := by rw [show (256 : Nat) = 2 ^ 8 by decide, ← Nat.pow_mul]; simp
        rw [e2]
        simp [bv, UInt8.toNat_ofNat'])
      go_wp2_with (at_builtin; refine wpList_append_bytes rfl _ _ rfl (w.heap.size) _ (xs ++ done) rfl (hO1.alloc _) _ 1 1 [UInt8.ofNat (n / 256 ^ j)] rfl (Bs.newRow _ _ _ _ _ _ _ rfl (Nat.le_refl _) ?g1 ?g2) ?g3 ?g4 ?gk)
      case g3 => unfold big at hl; omega
      case g1 => simp [maxLen]
      case g2 => have := hC.out; simpa using this
      case g4 => have := hE1.2; simp; omega
      intro v2 w2 hown2 hg2 _
      have hE2 := (hE1.alloc (.cells #[.int .u8 ((n : Int) / 2 ^ (8 * j) % 256)] TB)).grown hg2 hO1.blk
      clear hg2 hO1 hE1
      go_wp2_with fail
      go_roundw
      case rel => exact ⟨j, done ++ [UInt8.ofNat (n / 256 ^ j)], by omega, rfl, by rw [← hd]; simp [be], hown2, hE2⟩
      case measure => simp [intOf]; omega
    · obtain rfl : k = 0 := by omega
      have hd' : done = be n 8 := by simpa [be] using hd
      subst hd'
      go_wp2_with fail
      go_ret
      exact ⟨_, rfl, hO1, hE1.1⟩

end Go.Proofs.YtdglhonogopciaaDoor
