/- known of the statements on sha. -/
import Derived.Test.YtmjlndfkddacbaaShaOf
namespace Go.Proofs.Ytmjlndfkddacbaa
open Go.RowKit

set_option maxRecDepth 100000 in
theorem sha_abc : ((sha [0x61, 0x62, 0x63]).getD 0 0, (sha [0x61, 0x62, 0x63]).getD 1 0, (sha [0x61, 0x62, 0x63]).getD 2 0, (sha [0x61, 0x62, 0x63]).getD 3 0, (sha [0x61, 0x62, 0x63]).getD 31 0) = (0xba, 0x78, 0x16, 0xbf, 0xad) := by decide +kernel
/-- the cells of a row of bytes of known bytes -/
theorem Bs.atD {w : World} {a : Option Addr} {len cap : Nat} {xs : List UInt8} (h : Bs w a len cap xs) (h0 : 0 < len) : ∃ b off, a = some ⟨b, off, none⟩ ∧ b < w.heap.size ∧ ∀ i, i < len → w.cell? ⟨b, off + i, none⟩ = some (.int .u8 ((xs.getD i 0).toNat : Int)) := by
  obtain ⟨h1, h2, h3, h4⟩ := h
  rcases h4 with h4 | ⟨b, off, h4, h5, h6⟩
  · omega
  · refine ⟨b, off, h4, h5, fun i hi => ?_⟩
    rw [h6 i (by omega), List.getD_eq_getElem?_getD, List.getElem?_eq_getElem (by omega)]
    rfl

set_option maxHeartbeats 1000000 in
set_option maxRecDepth 100000 in
theorem sha_known (w : World) : Calls Try.prog 27 #[] w fun e w' => e = .returned (.bool true) ∧ Below w.heap.size w w' := by
  have hB : Bs (w.alloc (.cells #[.int .u8 97, .int .u8 98, .int .u8 99] TB (3, 4))) (some ⟨w.heap.size, 0, none⟩) 3 3 [97, 98, 99] := Bs.newRow w _ TB (3, 4) 3 3 [97, 98, 99] rfl (Nat.le_refl _) (by simp [maxLen]) rfl
  have HS := Lib.hid (shasum_any _ 3 3 [97, 98, 99] _ hB (by omega))
  have habc := sha_abc
  simp only [Prod.mk.injEq] at habc
  have hlen := sha_length [97, 98, 99]
  generalize sha [97, 98, 99] = S at *
  have HA := Lib.hid habc
  have HL := Lib.hid hlen
  clear habc hlen hB
  have kc := fun (w : World) (C : Array Value) (n c : Nat) => Lib.run_convert_bytes_const (P := Try.prog) w 25 5 C n c Try.underlying25 Try.underlying5
  go_enter Try.func27, Try.ntmps27
  go_wp2_with fail
  refine HS.out.mono ?_
  rintro e w1 ⟨v, rfl, ho, hb⟩
  have hE := ((Ext.refl w).alloc (.cells #[.int .u8 97, .int .u8 98, .int .u8 99] TB (3, 4))).step hb
  obtain ⟨a, c, rfl, hBs⟩ := ho.bsn HL.out
  obtain ⟨b, off, rfl, hbw, hc⟩ := hBs.atD (by omega)
  obtain ⟨e0, e1, e2, e3, e31⟩ := HA.out
  have c0 := hc 0 (by omega); have c1 := hc 1 (by omega); have c2 := hc 2 (by omega); have c3 := hc 3 (by omega); have c31 := hc 31 (by omega)
  rw [e0] at c0; rw [e1] at c1; rw [e2] at c2; rw [e3] at c3; rw [e31] at c31
  have d0 : w1.cell? ⟨b, off, none⟩ = some (.int .u8 186) := c0
  have d1 : w1.cell? ⟨b, off + 1, none⟩ = some (.int .u8 120) := c1
  have d2 : w1.cell? ⟨b, off + 2, none⟩ = some (.int .u8 22) := c2
  have d3 : w1.cell? ⟨b, off + 3, none⟩ = some (.int .u8 191) := c3
  have d31 : w1.cell? ⟨b, off + 31, none⟩ = some (.int .u8 173) := c31
  have hcc := hBs.2.1
  clear hc e0 e1 e2 e3 e31 c0 c1 c2 c3 c31 hBs ho hb
  go_wp2_with fail
  go_ret
  exact ⟨rfl, hE.1⟩
end Go.Proofs.Ytmjlndfkddacbaa
