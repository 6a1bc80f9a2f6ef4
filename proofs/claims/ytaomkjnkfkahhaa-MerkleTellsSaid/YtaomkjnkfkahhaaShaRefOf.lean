/- The contracts of permafrostref2.Leaf and Pair. -/
import Derived.Test.YtaomkjnkfkahhaaShaRef
import Derived.Test.YtaomkjnkfkahhaaShaOf
import Derived.Test.YtaomkjnkfkahhaaInts
namespace Go.Proofs.Ytaomkjnkfkahhaa
open Go.RowKit

theorem own_mk (w : World) (x : UInt8) : Own (w.alloc (.cells #[.int .u8 (x.toNat : Int)] TB)) w.heap.size (.slice (some ⟨w.heap.size, 0, none⟩) 1 1) [x] :=
  Own.of_row (xs := [x]) (Row.made w _ 1 1 [x] rfl rfl (Nat.le_refl _) (by simp [maxLen]) rfl) (Nat.le_refl _)

set_option maxHeartbeats 1000000 in
theorem rleaf_any (a : Option Addr) (len cap : Nat) (xs : List UInt8) (w : World) (h : Bs w a len cap xs) (hl : len ≤ 900000) :
    Calls Try.prog 11 #[.slice a len cap] w fun e w' => ∃ v, e = .returned v ∧ Own w' w.heap.size v (sha (0 :: xs)) ∧ Below w.heap.size w w' := by
  have h0 := own_mk w 0
  rw [show (((0 : UInt8).toNat : Nat) : Int) = 0 from rfl] at h0
  have hB := h.alloc (.cells #[.int .u8 0] TB)
  have hE := (Ext.refl w).alloc (.cells #[.int .u8 0] TB)
  have hxl := h.1
  go_enter Try.func11, Try.ntmps11
  go_wp2_with (at_builtin; refine wpList_append_bytes rfl _ _ rfl w.heap.size _ [0] rfl h0 a len cap xs rfl hB (by simp; omega) (by simp) ?_)
  intro v1 w1 ho1 hg1 _
  have hE1 := hE.grown hg1 (fun k hk => (World.ownsRow.lt h0 k hk).1)
  obtain ⟨a1, c1, rfl, hB1⟩ := ho1.bsn (n := len + 1) (by simp; omega)
  clear h0 hB hE ho1 hg1
  go_wp2_with fail
  refine (rsum_any a1 (len + 1) c1 _ w1 hB1 (by omega)).mono ?_
  rintro e w2 ⟨v, rfl, ho, hb⟩
  have hE2 := hE1.step hb
  have hO2 := ho.weaken hE1.2
  go_wp2_with fail
  go_ret
  exact ⟨_, rfl, hO2, hE2.1⟩

set_option maxHeartbeats 1000000 in
set_option maxRecDepth 100000 in
theorem rpair_any (a a' : Option Addr) (len cap len' cap' : Nat) (xs ys : List UInt8) (w : World) (h : Bs w a len cap xs) (h' : Bs w a' len' cap' ys) (hl : len + len' ≤ 900000) :
    Calls Try.prog 15 #[.slice a len cap, .slice a' len' cap'] w fun e w' => ∃ v, e = .returned v ∧ Own w' w.heap.size v (sha (1 :: (xs ++ ys))) ∧ Below w.heap.size w w' := by
  have h0 := own_mk w 1
  rw [show (((1 : UInt8).toNat : Nat) : Int) = 1 from rfl] at h0
  have hB := h.alloc (.cells #[.int .u8 1] TB)
  have hB' := h'.alloc (.cells #[.int .u8 1] TB)
  have hE := (Ext.refl w).alloc (.cells #[.int .u8 1] TB)
  have hxl := Lib.hid h.1
  have hyl := Lib.hid h'.1
  go_enter Try.func15, Try.ntmps15
  go_wp2_with (at_builtin; refine wpList_append_bytes rfl _ _ rfl w.heap.size _ [1] rfl h0 a len cap xs rfl hB (by simp; omega) (by simp) ?_)
  intro v1 w1 ho1 hg1 _
  have hE1 := hE.grown hg1 (fun k hk => (World.ownsRow.lt h0 k hk).1)
  have hC := (Chg.refl (fun k => some k = some w.heap.size) (w.alloc (.cells #[.int .u8 1] TB))).grown hg1 (fun k _ hk => hk.symm)
  have hB1' : Bs w1 a' len' cap' ys := hB'.chg hC (fun hp ad had hs => by have := h'.blk hp ad had; injection hs with hs; omega)
  have hlen1 := Lib.hid (show ((1 : UInt8) :: xs).length = len + 1 by have := hxl.out; simp; omega)
  have ho1 : Own w1 w.heap.size v1 (1 :: xs) := ho1
  go_wp2_with (at_builtin; refine wpList_append_bytes rfl _ _ rfl w.heap.size v1 (1 :: xs) rfl ho1 a' len' cap' ys rfl hB1' (by rw [hlen1.out]; omega) hE1.2 ?_)
  intro v2 w2 ho2 hg2 _
  have hE2 := hE1.grown hg2 (fun k hk => (World.ownsRow.lt ho1 k hk).1)
  obtain ⟨a1, c1, rfl, hB1⟩ := ho2.bsn (n := len + 1 + len') (by have := hxl.out; have := hyl.out; simp; omega)
  clear h0 hB hE ho1 hg1 ho2 hg2 hB' hB1' hC hE1
  go_wp2_with fail
  refine (rsum_any a1 (len + 1 + len') c1 _ w2 hB1 (by omega)).mono ?_
  rintro e w3 ⟨v, rfl, ho, hb⟩
  have hE3 := hE2.step hb
  have hO3 := ho.weaken hE2.2
  go_wp2_with fail
  go_ret
  exact ⟨_, rfl, hO3, hE3.1⟩
end Go.Proofs.Ytaomkjnkfkahhaa
