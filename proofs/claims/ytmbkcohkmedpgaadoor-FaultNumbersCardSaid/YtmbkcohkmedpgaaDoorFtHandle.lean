/- errors.errorType, as the rows list it, gives the walk its cell; a world that meets the rows' condition. -/
import Derived.Test.YtmbkcohkmedpgaaDoorRows
import Derived.Test.YtmbkcohkmedpgaaDoorFtAs2
import Derived.ChangeSame
import Derived.ChangeVars
import Derived.JoinedOf
import Derived.RowKit
import Derived.RowKitTokens
import Derived.LaidLaws
import Derived.LaidHandle
import Derived.Stop.Joined
namespace Go.Proofs.YtmbkcohkmedpgaaDoor
open Go.ChangeShapes Go.WideShapes Go.RowKit

theorem ft_et : Tryd.prog.globalNamed "errors.errorType" = some 0 := by kernel_rfl
theorem ft_rt : (Tryd.prog.cutTypes.find? (·.1 == "internal/reflectlite.rtype")).map (·.2) = some 71 := by kernel_rfl
theorem ft_oneRow : ((List.range 115).filter fun t => Tryd.prog.rowNamed t [101, 114, 114, 111, 114]) = [25] := by kernel_rfl
theorem ft_size : Tryd.prog.types.size = 115 := by kernel_rfl
theorem gl_of_laid {W : World} (h : laidMetH Tryd.prog [("errors.errorType", Rows.laid_errors_errorType)] W) : Gl W := by
  have h' : laidMet Tryd.prog [] W ∧ handlesMet Tryd.prog [("errors.errorType", Rows.laid_errors_errorType)] W := h
  obtain ⟨name, u, ty, e1, e2, e3, e4, e5⟩ := h'.2 _ (List.mem_singleton.2 rfl)
  have en : name = [101, 114, 114, 111, 114] := (Option.some.inj e1).symm
  subst en
  obtain rfl := Option.some.inj (ft_rt.symm.trans e2)
  have hm : ty ∈ (List.range 115).filter fun t => Tryd.prog.rowNamed t [101, 114, 114, 111, 114] := List.mem_filter.2 ⟨List.mem_range.2 (by rw [← ft_size]; exact e3), e4⟩
  rw [ft_oneRow] at hm
  obtain rfl := List.mem_singleton.1 hm
  have hh : typeHandle Tryd.prog 25 = .pointer (some ⟨1, 25, none⟩) := by kernel_rfl
  rw [hh] at e5
  have := World.var?_cell ft_et e5 0
  unfold Gl
  simpa using this
/-- A world that meets the condition: the settled one, the variable's cell laid. -/
noncomputable def ftWorld (os : Os) : World :=
  let w0 := World.holding Tryd.prog os ⟨#[], #[], []⟩
  { w0 with heap := w0.heap.modify 0 fun
      | .cells _ t frozen => .cells #[.iface 71 (.agg #[.pointer (some ⟨1, 25, none⟩)])] t frozen
      | o => o }
theorem ftWorld_met (os : Os) (args : Array Value) : laidMetH Tryd.prog [("errors.errorType", Rows.laid_errors_errorType)] ((ftWorld os).forCall (fun _ _ => 0) ⟨#[], args, []⟩).memory :=
  laidMetH_of_parts (laidMet_nil _ _) (by kernel_rfl)
end Go.Proofs.YtmbkcohkmedpgaaDoor
