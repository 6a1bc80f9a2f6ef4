/- The Go function permafrost/permafrostlaw6.MerkleTells returns true for every input, and its arguments read behind the call as before it.
   No condition beyond the row's own (what the given statement says). -/
import Derived.Test.YtaomkjnkfkahhaaRows
import Derived.Test.YtaomkjnkfkahhaaMerkleTellsWalk
import Derived.Test.YtaomkjnkfkahhaaArg
import Derived.WalkKit
import Derived.ProofKit
import Derived.OpenShut
import Derived.ChangeOld
import Derived.Below
namespace Go.Proofs.Ytaomkjnkfkahhaa.merkleTells
open Go.ChangeShapes Go.WideShapes Go.ChangeAt Go.RowKit
set_option linter.unusedVariables false

theorem own : ownKnob Try.prog.godebug = none := by kernel_rfl
theorem laidOut : laidOutB Try.prog = true := by kernel_rfl

theorem walk (v0 : Value) (v1 : Value) (v2 : Value) (v3 : Value) (v4 : Value) (v5 : Value) (v6 : Value) (w : World) (h0 : Arg Try.prog w 22 v0) (h1 : Arg Try.prog w 3 v1) (h2 : Arg Try.prog w 3 v2) (h3 : Arg Try.prog w 24 v3) (h4 : Arg Try.prog w 3 v4) (h5 : Arg Try.prog w 5 v5) (h6 : Arg Try.prog w 3 v6) :
    Calls Try.prog 6 #[v0, v1, v2, v3, v4, v5, v6] w fun e w' => e = .returned (.bool true) ∧ Below w.heap.size w w' :=
  MerkleTells_walk v0 v1 v2 v3 v4 v5 v6 w h0 h1 h2 h3 h4 h5 h6

set_option maxRecDepth 100000 in
theorem lifted (os : Os) (started : os.Started) (H : Type) (enc : TypeId × Value → H) :
    ReturnsInHanded {} Try.checked os 6 .any (Rows.merkleTellsSpec.pre6 enc Try.prog Try.f6 Rows.merkleTellsRow.domain false) (Rows.merkleTellsSpec.post enc Try.prog Try.f6 false true false false) := by
  refine returnsInHanded_of_change (C := Try.checked) own started (by kernel_rfl) Try.func6
    (ChangeSpec.witness6 (enc := enc) (C := Try.checked) false ⟨#[], #[.slice none 0 0, .int .i64 0, .int .i64 0, .slice none 0 0, .int .i64 0, .int .u8 0, .int .i64 0], []⟩ 8 (by kernel_rfl) (by kernel_rfl) (by kernel_rfl) (by kernel_rfl)) ?_
  intro W base args ds gs before hval0 hW hcnd _
  have hval : ∀ (j : Nat) t v, Try.f6.params[j]? = some t → args[j]? = some v → Value.okWide Try.prog W .any base t v := hval0
  have hW' := hW
  obtain ⟨p, q, hA0, hV, rfl, hfz, hnd⟩ := hW
  have hA : DataW.TrodAll enc Try.prog W 0 (fun _ => true) true Try.f6.params.toList args.toList ds p := hA0
  rw [Try.params6] at hA hval
  obtain ⟨v0, vs0, d0, ds0, p0, q0, hargs, rfl, rfl, h0, r0⟩ := trodAll_cons hA
  obtain ⟨v1, vs1, d1, ds1, p1, q1, rfl, rfl, rfl, h1, r1⟩ := trodAll_cons r0
  obtain ⟨v2, vs2, d2, ds2, p2, q2, rfl, rfl, rfl, h2, r2⟩ := trodAll_cons r1
  obtain ⟨v3, vs3, d3, ds3, p3, q3, rfl, rfl, rfl, h3, r3⟩ := trodAll_cons r2
  obtain ⟨v4, vs4, d4, ds4, p4, q4, rfl, rfl, rfl, h4, r4⟩ := trodAll_cons r3
  obtain ⟨v5, vs5, d5, ds5, p5, q5, rfl, rfl, rfl, h5, r5⟩ := trodAll_cons r4
  obtain ⟨v6, vs6, d6, ds6, p6, q6, rfl, rfl, rfl, h6, r6⟩ := trodAll_cons r5
  obtain ⟨rfl, rfl, rfl⟩ := trodAll_nil r6
  obtain rfl : args = #[v0, v1, v2, v3, v4, v5, v6] := by cases args; simp_all
  obtain ⟨rfl, rfl⟩ := trodVars_none hV
  have lt0 : ∀ x ∈ p0, x.block < W.heap.size := by obtain ⟨m, hm⟩ := h0; exact DataW.trod_lt m _ _ _ hm
  have a0 : Arg Try.prog W 22 v0 := ⟨⟨_, _, hval 0 22 v0 rfl rfl⟩, by obtain ⟨m, hm⟩ := h0; exact ⟨H, enc, m, _, hm⟩⟩
  have lt1 : ∀ x ∈ p1, x.block < W.heap.size := by obtain ⟨m, hm⟩ := h1; exact DataW.trod_lt m _ _ _ hm
  have a1 : Arg Try.prog W 3 v1 := ⟨⟨_, _, hval 1 3 v1 rfl rfl⟩, by obtain ⟨m, hm⟩ := h1; exact ⟨H, enc, m, _, hm⟩⟩
  have lt2 : ∀ x ∈ p2, x.block < W.heap.size := by obtain ⟨m, hm⟩ := h2; exact DataW.trod_lt m _ _ _ hm
  have a2 : Arg Try.prog W 3 v2 := ⟨⟨_, _, hval 2 3 v2 rfl rfl⟩, by obtain ⟨m, hm⟩ := h2; exact ⟨H, enc, m, _, hm⟩⟩
  have lt3 : ∀ x ∈ p3, x.block < W.heap.size := by obtain ⟨m, hm⟩ := h3; exact DataW.trod_lt m _ _ _ hm
  have a3 : Arg Try.prog W 24 v3 := ⟨⟨_, _, hval 3 24 v3 rfl rfl⟩, by obtain ⟨m, hm⟩ := h3; exact ⟨H, enc, m, _, hm⟩⟩
  have lt4 : ∀ x ∈ p4, x.block < W.heap.size := by obtain ⟨m, hm⟩ := h4; exact DataW.trod_lt m _ _ _ hm
  have a4 : Arg Try.prog W 3 v4 := ⟨⟨_, _, hval 4 3 v4 rfl rfl⟩, by obtain ⟨m, hm⟩ := h4; exact ⟨H, enc, m, _, hm⟩⟩
  have lt5 : ∀ x ∈ p5, x.block < W.heap.size := by obtain ⟨m, hm⟩ := h5; exact DataW.trod_lt m _ _ _ hm
  have a5 : Arg Try.prog W 5 v5 := ⟨⟨_, _, hval 5 5 v5 rfl rfl⟩, by obtain ⟨m, hm⟩ := h5; exact ⟨H, enc, m, _, hm⟩⟩
  have lt6 : ∀ x ∈ p6, x.block < W.heap.size := by obtain ⟨m, hm⟩ := h6; exact DataW.trod_lt m _ _ _ hm
  have a6 : Arg Try.prog W 3 v6 := ⟨⟨_, _, hval 6 3 v6 rfl rfl⟩, by obtain ⟨m, hm⟩ := h6; exact ⟨H, enc, m, _, hm⟩⟩
  clear hA0 hval0
  refine (walk v0 v1 v2 v3 v4 v5 v6 W a0 a1 a2 a3 a4 a5 a6).mono fun e W' ⟨he, bel⟩ => ?_
  subst he
  exact ⟨_, rfl, _, _, _, [], _, [], hW', trodAll_mk1 (shut_bool Try.underlying4 _), (trodAll_cons_mk (Below.trod laidOut (by kernel_rfl) (of_decide_eq_true (by kernel_rfl)) h0 bel lt0) (trodAll_cons_mk (Below.trod laidOut (by kernel_rfl) (of_decide_eq_true (by kernel_rfl)) h1 bel lt1) (trodAll_cons_mk (Below.trod laidOut (by kernel_rfl) (of_decide_eq_true (by kernel_rfl)) h2 bel lt2) (trodAll_cons_mk (Below.trod laidOut (by kernel_rfl) (of_decide_eq_true (by kernel_rfl)) h3 bel lt3) (trodAll_cons_mk (Below.trod laidOut (by kernel_rfl) (of_decide_eq_true (by kernel_rfl)) h4 bel lt4) (trodAll_cons_mk (Below.trod laidOut (by kernel_rfl) (of_decide_eq_true (by kernel_rfl)) h5 bel lt5) (trodAll_cons_mk (Below.trod laidOut (by kernel_rfl) (of_decide_eq_true (by kernel_rfl)) h6 bel lt6) trodAll_mk0))))))), rfl, bel.frame _, fun h => by cases h⟩

theorem over : Rows.merkleTellsRow.holds Try.pinned (OpenSpec.ofChange Rows.merkleTellsSpec) :=
  OpenClaim.holds_of_wide 6 Try.f6 rfl rfl rfl rfl rfl rfl rfl ⟨rfl, rfl, rfl, rfl, rfl⟩ rfl rfl rfl rfl rfl (by kernel_rfl) Try.func6 (by kernel_rfl)
    (of_decide_eq_true (by kernel_rfl)) (by unfold Func.isWrapper; first | (rw [if_pos (by decide +kernel)]; kernel_rfl) | (rw [if_neg (by decide +kernel)]; exact ⟨rfl, rfl⟩))
    (fun os started H enc _ => lifted os started H enc)

theorem proved : Rows.MerkleTellsSaid := over
#print axioms proved
end Go.Proofs.Ytaomkjnkfkahhaa.merkleTells
