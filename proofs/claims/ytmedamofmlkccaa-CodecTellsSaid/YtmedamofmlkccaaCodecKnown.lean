/- The chapter's runs (permafrostlaw4.known). -/
import Derived.Test.YtmedamofmlkccaaWriter
import Derived.Test.YtmedamofmlkccaaStr
namespace Go.Proofs.Ytmedamofmlkccaa
open Go.RowKit

set_option maxRecDepth 100000 in
theorem codec_known (w : World) :
    Calls Try.prog 22 #[] w fun e w' => e = .returned (.bool true) ∧ Below w.heap.size w w' := by
  go_enter Try.func22, Try.ntmps22
  go_wp2_with fail
  refine (wnew_any _).mono ?_
  rintro e w1 ⟨rfl, hW1, hb1⟩
  go_wp2_with fail
  refine (wshort_any _ _ 258 _ _ _ hW1 (by omega) (by unfold big; decide)).mono ?_
  rintro e w2 ⟨rfl, g2, hW2, hC2, hg2⟩
  go_wp2_with fail
  refine (wflag_any _ _ true _ _ _ hW2 (by unfold big; decide)).mono ?_
  rintro e w3 ⟨rfl, g3, hW3, hC3, hg3⟩
  go_wp2_with fail
  refine (wdone_any _ _ _ _ _ hW3 (by unfold big; decide)).mono ?_
  rintro e w4 ⟨v, rfl, ho, hb4⟩
  rw [show ([] ++ be 258 2 ++ [fb true] : List UInt8) = [1, 2, 1] by decide] at ho
  obtain ⟨a, cap, rfl, hB⟩ := ho.bsn (n := 3) rfl
  have hs := run_string hB
  have he := strOf_toList [1, 2, 1]
  go_wp2_with fail
  go_ret
  exact ⟨rfl, ((((Ext.refl w).step hb1).to (hW1.belowOf hC2)).to (hW2.belowOf hC3) |>.step hb4).1⟩
end Go.Proofs.Ytmedamofmlkccaa
