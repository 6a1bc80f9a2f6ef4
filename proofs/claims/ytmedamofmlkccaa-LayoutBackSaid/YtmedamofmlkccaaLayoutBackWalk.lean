/- The walk of permafrostlaw19.LayoutBack. -/
import Derived.Test.YtmedamofmlkccaaSuperLaw
import Derived.Test.YtmedamofmlkccaaSizedb
import Derived.Test.YtmedamofmlkccaaWithin
import Derived.Test.YtmedamofmlkccaaArg
import Derived.Laws.BitsAllLaws
namespace Go.Proofs.Ytmedamofmlkccaa
open Go.RowKit

set_option maxRecDepth 100000 in
theorem LayoutBack_walk (v0 : Value) (v1 : Value) (v2 : Value) (v3 : Value) (w : World) (h0 : Arg Try.prog w 3 v0) (h1 : Arg Try.prog w 26 v1) (h2 : Arg Try.prog w 3 v2) (h3 : Arg Try.prog w 5 v3) :
    Calls Try.prog 12 #[v0, v1, v2, v3] w fun e w' => e = .returned (.bool true) ∧ Below w.heap.size w w' := by
  obtain ⟨n0, rfl, _⟩ := h0.int Try.underlying3
  obtain ⟨a0, len0, cap0, ys, rfl, hY⟩ := h1.bytes Try.underlying26 Try.underlying5 (by kernel_rfl)
  obtain ⟨at_, rfl, _⟩ := h2.int Try.underlying3
  obtain ⟨z, rfl, hz⟩ := h3.int Try.underlying5
  obtain ⟨t, rfl⟩ : ∃ t : UInt8, (t.toNat : Int) = z := ⟨byteOf z, byteOf_toNat hz⟩
  clear h0 h1 h2 h3 hz
  go_enter Try.func12, Try.ntmps12
  go_wp2_with fail
  refine (within_any n0 0 4032 _ (by omega) (by omega) (by omega)).mono ?_
  rintro e w0 ⟨rfl, rfl⟩
  have hm := within_bd n0 0 4032 (by omega)
  generalize within n0 0 4032 = mi at *
  obtain ⟨m, hme⟩ : ∃ m : Nat, (64 : Int) + mi = (m : Int) := ⟨(64 + mi).toNat, by omega⟩
  have hm1 : 64 ≤ m := by omega
  have hm2 : m ≤ 4096 := by omega
  have HS := Lib.hid (sized_any 16 a0 len0 cap0 ys w hY (by omega))
  have hid := sizedOf_length 16 ys
  generalize sizedOf 16 ys = id at *
  clear hm hY
  go_wp2_with fail
  refine HS.out.mono ?_
  rintro e w1 ⟨v1, rfl, ho1, hb1⟩
  have hE1 := (Ext.refl w).step hb1
  obtain ⟨a1, c1, rfl, hB1⟩ := ho1.bsn hid
  have HSU := Lib.hid (super_ok m a1 c1 id w1 hB1 hm1 hm2)
  clear ho1 HS
  obtain ⟨k1, k2, k3⟩ := supOk_bytes m id hid hm1 hm2
  have hL := supBytes_length m id hid
  have HTU := Lib.hid (fun i hi x hx ht => supOk_turned m id hid i hi x t hx ht)
  generalize supBytes m id = X at *
  go_wp2_with fail
  refine HSU.out.mono ?_
  rintro e w2 ⟨v2, rfl, ho2, hb2⟩
  have hE2 := hE1.step hb2
  obtain ⟨g, cg, rfl, hgz, hRow⟩ : ∃ g cg, v2 = .slice (some ⟨g, 0, none⟩) 128 cg ∧ w1.heap.size ≤ g ∧ Row w2 g cg X := by
    rcases ho2.parts with ⟨_, h2⟩ | ⟨g, c, h1, h2, h3⟩
    · rw [h2] at hL; cases hL
    · exact ⟨g, c, by rw [h1, hL], h2, h3⟩
  have hBX := hRow.bs
  rw [hL] at hBX
  have HRS := Lib.hid (rsup_any _ 128 cg X w2 hBX (by unfold big; decide))
  clear ho2 HSU hBX
  go_wp2_with fail
  refine HRS.out.mono ?_
  rintro e w3 ⟨hcase, hb3⟩
  have hE3 := hE2.step hb3
  obtain ⟨vi, rfl, hoi⟩ : ∃ v, e = .returned (.tuple #[.int .i64 (m : Int), v, .int .i64 0]) ∧ Own w3 w2.heap.size v id := by
    rcases hcase with ⟨_, v, h1, h2⟩ | ⟨h1, _⟩
    · rw [k2] at h1; rw [k3] at h2; exact ⟨v, h1, h2⟩
    · exact absurd k1 h1
  obtain ⟨ai, ci, rfl, hBi⟩ := hoi.bsn hid
  have hs1 := run_string hBi
  have hs2 := run_string ((hB1.below hb2).below hb3)
  have hmm : ((m : Int) != (m : Int)) = false := by simp
  have hR3 := hRow.below hb3
  clear hcase HRS hoi hRow
  go_wp2_with fail
  refine (within_any at_ 0 127 _ (by omega) (by omega) (by omega)).mono ?_
  rintro e w4 ⟨rfl, rfl⟩
  have hi := within_bd at_ 0 127 (by omega)
  generalize within at_ 0 127 = ii at *
  obtain ⟨i, rfl⟩ : ∃ i : Nat, ii = (i : Int) := ⟨ii.toNat, by omega⟩
  have hi128 : i < 128 := by omega
  have hc := hR3.cell i (by omega)
  have hfz := hR3.frozen i
  have hcl := hR3.len
  obtain ⟨x, hx⟩ : ∃ x, X[i]? = some x := ⟨X[i]'(by omega), List.getElem?_eq_getElem (by omega)⟩
  have hxe : X[i]'(by omega) = x := by rw [List.getElem?_eq_getElem (by omega)] at hx; exact Option.some.inj hx
  rw [hxe] at hc
  have hxo := u8_xor_nat x.toNat t.toNat (UInt8.toNat_lt _) (UInt8.toNat_lt _)
  have hR4 := hR3.set i (x ^^^ t)
  have HXT := Lib.hid (show ((x ^^^ t).toNat : Int) = ((x.toNat ^^^ t.toNat : Nat) : Int) by rw [UInt8.toNat_xor])
  clear hs1 hs2 hBi
  go_wp2_with fail
  rw [HXT.out] at hR4
  have hE4 := hE3.setCell (p := ⟨g, i, none⟩) (Nat.le_trans hE1.2 hgz) (.int .u8 ((x.toNat ^^^ t.toNat : Nat) : Int))
  have hB4 := hR4.bs
  rw [List.length_set, hL] at hB4
  have HR4 := Lib.hid (rsup_any _ 128 cg _ _ hB4 (by unfold big; decide))
  generalize w3.setCell ⟨g, i, none⟩ (.int .u8 ((x.toNat ^^^ t.toNat : Nat) : Int)) = w5 at *
  refine HR4.out.mono ?_
  rintro e w6 ⟨hcase, hb6⟩
  have hE6 := hE4.step hb6
  by_cases ht : t = 0
  · have hXX : X.set i (x ^^^ t) = X := by
      subst ht
      rw [UInt8.xor_zero, ← hxe]; exact List.set_getElem_self (by omega)
    rw [hXX] at hcase
    obtain ⟨v, rfl⟩ : ∃ v, e = .returned (.tuple #[.int .i64 (m : Int), v, .int .i64 0]) := by
      rcases hcase with ⟨_, v, h1, _⟩ | ⟨h1, _⟩
      · rw [k2] at h1; exact ⟨v, h1⟩
      · exact absurd k1 h1
    subst ht
    clear hcase HR4 HTU
    go_wp2_with fail
    refine (layout_known _).mono ?_
    rintro e w7 ⟨rfl, hb7⟩
    go_wp2_with fail
    go_ret
    exact ⟨rfl, (hE6.step hb7).1⟩
  · obtain rfl : e = .returned (.tuple #[.int .i64 0, .slice none 0 0, .int .i64 41]) := by
      rcases hcase with ⟨h1, _⟩ | ⟨_, h1⟩
      · exact absurd h1 (HTU.out i hi128 x hx ht)
      · exact h1
    have ht0 : ((t.toNat : Int) == 0) = false := by
      rw [beq_eq_false_iff_ne]
      intro h
      exact ht (UInt8.toNat_inj.1 (by rw [UInt8.toNat_zero]; omega))
    clear hcase HR4 HTU
    go_wp2_with fail
    refine (layout_known _).mono ?_
    rintro e w7 ⟨rfl, hb7⟩
    go_wp2_with fail
    go_ret
    exact ⟨rfl, (hE6.step hb7).1⟩
end Go.Proofs.Ytmedamofmlkccaa
