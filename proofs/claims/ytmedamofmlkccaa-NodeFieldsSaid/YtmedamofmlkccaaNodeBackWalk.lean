/- The walk of permafrostlaw10.NodeBack. -/
import Derived.Test.YtmedamofmlkccaaNodeInv
import Derived.Test.YtmedamofmlkccaaArg
import Derived.Test.YtmedamofmlkccaaSized
import Derived.Deep.DeepCutAuto
import Derived.Deep.RegionHeld3
import Derived.Laws.StructEq
namespace Go.Proofs.Ytmedamofmlkccaa
open Go.RowKit

theorem u64_nat' (n : Int) (h : (Lit.int .u64 n).wf = true) : ∃ m : Nat, n = (m : Int) ∧ m < 18446744073709551616 := by
  have hb : 0 ≤ n ∧ n < 18446744073709551616 := by simp [Lit.wf, IntKind.min, IntKind.max, IntKind.bits, IntKind.signed] at h; omega
  exact ⟨n.toNat, by omega, by omega⟩
theorem six_of {l : List Value} (h : l.length = 6) : ∃ x0 x1 x2 x3 x4 x5, l = [x0, x1, x2, x3, x4, x5] := by
  match l, h with
  | [x0, x1, x2, x3, x4, x5], _ => exact ⟨x0, x1, x2, x3, x4, x5, rfl⟩
set_option maxRecDepth 100000 in
theorem Arg.node {w : World} {v : Value} (h : Arg Try.prog w 59 v) : ∃ n : Nd, v = .agg n.cells ∧ n.til < 18446744073709551616 := by
  obtain ⟨cs, rfl, hs, hf⟩ := h.struct Try.underlying59
  have hs6 : Try.prog.cellsOf 59 = 6 := by kernel_rfl
  rw [hs6] at hs
  obtain ⟨l⟩ := cs
  obtain ⟨x0, x1, x2, x3, x4, x5, rfl⟩ := six_of (l := l) (by simpa using hs)
  have q0 : Can Try.prog w 3 (([x0, x1, x2, x3, x4, x5].drop 0).take (Try.prog.cellsOf 3)) := hf 0 _ rfl
  have q1 : Can Try.prog w 3 (([x0, x1, x2, x3, x4, x5].drop 1).take (Try.prog.cellsOf 3)) := hf 1 _ rfl
  have q2 : Can Try.prog w 3 (([x0, x1, x2, x3, x4, x5].drop 2).take (Try.prog.cellsOf 3)) := hf 2 _ rfl
  have q3 : Can Try.prog w 3 (([x0, x1, x2, x3, x4, x5].drop 3).take (Try.prog.cellsOf 3)) := hf 3 _ rfl
  have q4 : Can Try.prog w 37 (([x0, x1, x2, x3, x4, x5].drop 4).take (Try.prog.cellsOf 37)) := hf 4 _ rfl
  have q5 : Can Try.prog w 4 (([x0, x1, x2, x3, x4, x5].drop 5).take (Try.prog.cellsOf 4)) := hf 5 _ rfl
  rw [show Try.prog.cellsOf 3 = 1 by kernel_rfl] at q0 q1 q2 q3
  rw [show Try.prog.cellsOf 37 = 1 by kernel_rfl] at q4
  rw [show Try.prog.cellsOf 4 = 1 by kernel_rfl] at q5
  obtain ⟨i, hi, _⟩ := q0.int Try.underlying3
  obtain ⟨k, hk, _⟩ := q1.int Try.underlying3
  obtain ⟨l, hl, _⟩ := q2.int Try.underlying3
  obtain ⟨s, hz, _⟩ := q3.int Try.underlying3
  obtain ⟨t, ht, htw⟩ := q4.int Try.underlying37
  obtain ⟨b, hb⟩ := q5.bool Try.underlying4
  obtain ⟨m, rfl, hm⟩ := u64_nat' t htw
  simp at hi hk hl hz ht hb
  subst hi hk hl hz ht hb
  exact ⟨⟨i, k, l, s, m, b⟩, rfl, hm⟩

set_option maxRecDepth 100000 in
theorem node_known (w : World) : Calls Try.prog 41 #[] w fun e w' => e = .returned (.bool true) ∧ Below w.heap.size w w' := by
  have HE := Lib.hid (fun w => nenc_ok ⟨0, 2, 1, 0, 0, true⟩ w (by decide))
  unfold Nd.cells at HE
  simp only at HE
  go_enter Try.func41, Try.ntmps41
  go_wp2_with fail
  refine (HE.out _).mono ?_
  rintro e w1 ⟨v, rfl, ho, hb⟩
  obtain ⟨a, cap, rfl, hB⟩ := ho.bsn (n := 16) (Nd.bytes_length _)
  have hs := run_string hB
  have he := strOf_toList (Nd.bytes ⟨0, 2, 1, 0, 0, true⟩)
  rw [show Nd.bytes ⟨0, 2, 1, 0, 0, true⟩ = [0, 0, 2, 0, 1, 0, 0, 0, 0, 0, 0, 0, 0, 0, 0, 1] by decide +kernel] at hs he
  clear hB ho
  go_wp2_with fail
  go_ret
  exact ⟨rfl, ((Ext.refl w).step hb).1⟩
theorem nenc_any (n : Nd) (w : World) : Calls Try.prog 42 #[.agg n.cells] w fun e w' => ∃ v, e = .returned (.tuple #[v, .int .i64 (if n.Ok then 0 else 12)]) ∧ Own w' w.heap.size v (if n.Ok then n.bytes else []) ∧ Below w.heap.size w w' := by
  by_cases h : n.Ok
  · refine (nenc_ok n w h).mono ?_
    rintro e w' ⟨v, h1, h2, h3⟩
    exact ⟨v, by rw [if_pos h]; exact h1, by rw [if_pos h]; exact h2, h3⟩
  · refine (nenc_no n w h).mono ?_
    rintro e w' ⟨h1, h2⟩
    exact ⟨.slice none 0 0, by rw [if_neg h]; exact h1, by rw [if_neg h]; exact Own.nil _ _, h2⟩
set_option maxRecDepth 100000 in
theorem nd_eql_self (a : Nd) (w : World) : (binOp .eql 59 (.agg a.cells) (.agg a.cells)).run Try.prog w = .ok (.bool true) w := by
  obtain ⟨i, k, l, s, t, c⟩ := a
  unfold Nd.cells
  simp [go_sem, Try.underlying59, Try.underlying3, Try.underlying37, Try.underlying4]
set_option maxRecDepth 100000 in
theorem nd_eql_ne (a b : Nd) (h : a ≠ b) (w : World) : (binOp .eql 59 (.agg a.cells) (.agg b.cells)).run Try.prog w = .ok (.bool false) w := by
  obtain ⟨i, k, l, s, t, c⟩ := a
  obtain ⟨i', k', l', s', t', c'⟩ := b
  unfold Nd.cells
  by_cases h1 : i = i'
  · by_cases h2 : k = k'
    · by_cases h3 : l = l'
      · by_cases h4 : s = s'
        · by_cases h5 : t = t'
          · by_cases h6 : c = c'
            · exact absurd (by rw [h1, h2, h3, h4, h5, h6]) h
            · simp [go_sem, Try.underlying59, Try.underlying3, Try.underlying37, Try.underlying4, h1, h2, h3, h4, h5, h6]
          · have h5' : ((t : Int) == (t' : Int)) = false := by rw [beq_eq_false_iff_ne]; omega
            simp [go_sem, Try.underlying59, Try.underlying3, Try.underlying37, Try.underlying4, h1, h2, h3, h4, h5']
        · simp [go_sem, Try.underlying59, Try.underlying3, Try.underlying37, Try.underlying4, h1, h2, h3, h4]
      · simp [go_sem, Try.underlying59, Try.underlying3, Try.underlying37, Try.underlying4, h1, h2, h3]
    · simp [go_sem, Try.underlying59, Try.underlying3, Try.underlying37, Try.underlying4, h1, h2]
  · simp [go_sem, Try.underlying59, Try.underlying3, Try.underlying37, Try.underlying4, h1]
/-- a node lies in block b -/
def NdAt (w : World) (b : Nat) (n : Nd) : Prop := w.cell? ⟨b, 0, none⟩ = some (.int .i64 n.id) ∧ w.cell? ⟨b, 1, none⟩ = some (.int .i64 n.kind) ∧ w.cell? ⟨b, 2, none⟩ = some (.int .i64 n.links) ∧
  w.cell? ⟨b, 3, none⟩ = some (.int .i64 n.size) ∧ w.cell? ⟨b, 4, none⟩ = some (.int .u64 (n.til : Int)) ∧ w.cell? ⟨b, 5, none⟩ = some (.bool n.closed)
theorem NdAt.new (w : World) (n : Nd) (t : TypeId) : NdAt (w.alloc (.cells n.cells t)) w.heap.size n :=
  ⟨cell_new w _ t 0, cell_new w _ t 1, cell_new w _ t 2, cell_new w _ t 3, cell_new w _ t 4, cell_new w _ t 5⟩
theorem NdAt.ext {w W : World} {p b : Nat} {n : Nd} (h : NdAt w b n) (hE : Ext p w W) (hb : b < p) : NdAt W b n := by
  obtain ⟨h0, h1, h2, h3, h4, h5⟩ := h
  exact ⟨hE.cel hb h0, hE.cel hb h1, hE.cel hb h2, hE.cel hb h3, hE.cel hb h4, hE.cel hb h5⟩

set_option maxRecDepth 100000 in
set_option maxHeartbeats 1000000 in
theorem NodeBack_walk (v0 : Value) (v1 : Value) (v2 : Value) (w : World) (h0 : Arg Try.prog w 59 v0) (h1 : Arg Try.prog w 59 v1) (h2 : Arg Try.prog w 26 v2) (_g0 : Fits Try.prog 59 v0) (_g1 : Fits Try.prog 59 v1) (g2 : Fits Try.prog 26 v2) :
    Calls Try.prog 10 #[v0, v1, v2] w fun e w' => e = .returned (.bool true) ∧ Below w.heap.size w w' := by
  obtain ⟨a, rfl, ha⟩ := h0.node
  obtain ⟨b, rfl, hb⟩ := h1.node
  obtain ⟨ax, lx, cx, xs, rfl, hX⟩ := h2.bytes Try.underlying26 Try.underlying5 (by kernel_rfl)
  have hlx := g2 _ _ _ _ Try.underlying26 rfl
  rw [show Try.prog.bytesOf 5 = 1 by kernel_rfl, Nat.mul_one] at hlx
  have HLX := Lib.hid (show lx ≤ big by have := reachBytes_lt; unfold big; omega)
  clear h0 h1 h2 hlx _g0 _g1 g2
  have hxl := hX.1
  have hxc := hX.2.1
  have HE := Lib.hid (fun w => nenc_any a w)
  have HF := Lib.hid (fun w => nenc_any b w)
  have hE0 := ((Ext.refl w).alloc (.cells a.cells 59)).alloc (.cells b.cells 59)
  have hs0 : w.heap.size < (w.alloc (.cells a.cells 59)).heap.size := size_alloc w (.cells a.cells 59)
  have hs1 : (w.alloc (.cells a.cells 59)).heap.size < ((w.alloc (.cells a.cells 59)).alloc (.cells b.cells 59)).heap.size := size_alloc _ _
  have hs2 : (w.alloc (.cells a.cells 59)).heap.size = w.heap.size + 1 := by simp
  have hA0 := (NdAt.new w a 59).ext ((Ext.refl _).alloc (.cells b.cells 59)) hs0
  have hB0 := NdAt.new (w.alloc (.cells a.cells 59)) b 59
  rw [hs2] at hs0 hs1 hB0
  obtain ⟨i, k, l, s, t, c⟩ := a
  obtain ⟨i', k', l', s', t', c'⟩ := b
  obtain ⟨ea, hea⟩ : ∃ e : Int, e = if Nd.Ok ⟨i, k, l, s, t, c⟩ then 0 else 12 := ⟨_, rfl⟩
  obtain ⟨eb, heb⟩ : ∃ e : Int, e = if Nd.Ok ⟨i', k', l', s', t', c'⟩ then 0 else 12 := ⟨_, rfl⟩
  rw [← hea] at HE
  rw [← heb] at HF
  unfold Nd.cells at *
  simp only at *
  go_enter Try.func10, Try.ntmps10
  go_wp2_with fail
  generalize ((w.alloc (.cells #[.int .i64 i, .int .i64 k, .int .i64 l, .int .i64 s, .int .u64 (t : Int), .bool c] 59)).alloc (.cells #[.int .i64 i', .int .i64 k', .int .i64 l', .int .i64 s', .int .u64 (t' : Int), .bool c'] 59)) = w0 at *
  obtain ⟨H, hH⟩ : ∃ H, H = w.heap.size := ⟨_, rfl⟩
  rw [← hH] at hE0 hs1 hA0 hB0 ⊢
  have HH := Lib.hid hH
  clear hs0 hs2 hH
  obtain ⟨p, hp⟩ : ∃ p, p = w0.heap.size := ⟨_, rfl⟩
  rw [← hp] at hs1
  have HP := Lib.hid hp
  clear hp
  have HA := Lib.hid hA0
  have HB := Lib.hid hB0
  have HEA := Lib.hid hea
  have HEB := Lib.hid heb
  clear hA0 hB0 hea heb
  refine (HE.out _).mono ?_
  rintro e w1 ⟨va, rfl, hoa, hb1⟩
  have hE1 : Ext p w0 w1 := by rw [HP.out]; exact (Ext.refl w0).step hb1
  have hs0 : H < p := by omega
  obtain ⟨d0, d1, d2, d3, d4, d5⟩ := HB.out.ext hE1 hs1
  simp only at d0 d1 d2 d3 d4 d5
  go_wp2_with fail
  refine (HF.out _).mono ?_
  rintro e w2 ⟨vb, rfl, hob, hb2⟩
  have hE2 : Ext p w0 w2 := hE1.step hb2
  clear d0 d1 d2 d3 d4 d5
  go_upto_if 28 with fail
  go_cut [] (fun wx => Ext p w0 wx)
  case first =>
    by_cases hao : Nd.Ok ⟨i, k, l, s, t, c⟩
    · have hea := HEA.out
      rw [if_pos hao] at hea hoa
      subst hea
      obtain ⟨aa, ca, rfl, hBa⟩ := hoa.bsn (n := 16) (Nd.bytes_length _)
      have hBa2 := hBa.below hb2
      have hac := hBa.2.1
      have HDA := Lib.hid (ndec_any aa 16 ca _ w2 hBa2 (by unfold big; decide))
      rw [ndDec_bytes _ hao ha] at HDA
      unfold decV at HDA
      simp only [Option.getD_some, Option.isSome_some, if_true, Nd.cells] at HDA
      clear hoa hBa
      go_wp2_with fail
      refine HDA.out.mono ?_
      rintro e w3 ⟨rfl, hb3⟩
      have hE3 : Ext p w0 w3 := hE2.step hb3
      have hE4 := hE3.alloc (.cells #[.int .i64 i, .int .i64 k, .int .i64 l, .int .i64 s, .int .u64 (t : Int), .bool c] 59)
      have hN0 := NdAt.new w3 ⟨i, k, l, s, t, c⟩ 59
      unfold Nd.cells at hN0
      simp only at hN0
      have hBa4 := (hBa2.below hb3).alloc (.cells #[.int .i64 i, .int .i64 k, .int .i64 l, .int .i64 s, .int .u64 (t : Int), .bool c] 59)
      have hob4 := (hob.below hb3).alloc (.cells #[.int .i64 i, .int .i64 k, .int .i64 l, .int .i64 s, .int .u64 (t : Int), .bool c] 59)
      obtain ⟨c0, c1, c2, c3, c4, c5⟩ := HA.out.ext hE4 hs0
      obtain ⟨d0, d1, d2, d3, d4, d5⟩ := HB.out.ext hE4 hs1
      obtain ⟨n0, n1, n2, n3, n4, n5⟩ := hN0
      simp only at c0 c1 c2 c3 c4 c5 d0 d1 d2 d3 d4 d5 n0 n1 n2 n3 n4 n5
      go_upto_region 5 with fail
      generalize (w3.alloc (.cells #[.int .i64 i, .int .i64 k, .int .i64 l, .int .i64 s, .int .u64 (t : Int), .bool c] 59)) = w4 at *
      generalize w3.heap.size = N at *
      by_cases hbo : Nd.Ok ⟨i', k', l', s', t', c'⟩
      · have heb := HEB.out
        rw [if_pos hbo] at heb hob4
        subst heb
        obtain ⟨ab, cb, rfl, hBb⟩ := hob4.bsn (n := 16) (Nd.bytes_length _)
        have hsa := run_string hBa4.drew
        have hsb := run_string hBb.drew
        have ca0 := strOf_toList (Nd.bytes ⟨i, k, l, s, t, c⟩)
        have cb0 := strOf_toList (Nd.bytes ⟨i', k', l', s', t', c'⟩)
        by_cases hab : (⟨i, k, l, s, t, c⟩ : Nd) = ⟨i', k', l', s', t', c'⟩
        · cases hab
          have he := fun w => nd_eql_self ⟨i, k, l, s, t, c⟩ w
          unfold Nd.cells at he
          simp only at he
          generalize Nd.bytes ⟨i, k, l, s, t, c⟩ = ya at *
          have hyy : (ya == ya) = true := by simp
          clear HEA HEB HE HF HDA hBa2 hob hob4 hBa4 hBb hX
          go_region_held3 (fun w' => w'.cell? ⟨H, 0, none⟩ = some (.int .i64 i) ∧ w'.cell? ⟨H, 1, none⟩ = some (.int .i64 k) ∧ w'.cell? ⟨H, 2, none⟩ = some (.int .i64 l) ∧ w'.cell? ⟨H, 3, none⟩ = some (.int .i64 s) ∧ w'.cell? ⟨H, 4, none⟩ = some (.int .u64 (t : Int)) ∧ w'.cell? ⟨H, 5, none⟩ = some (.bool c) ∧ w'.cell? ⟨H + 1, 0, none⟩ = some (.int .i64 i) ∧ w'.cell? ⟨H + 1, 1, none⟩ = some (.int .i64 k) ∧ w'.cell? ⟨H + 1, 2, none⟩ = some (.int .i64 l) ∧ w'.cell? ⟨H + 1, 3, none⟩ = some (.int .i64 s) ∧ w'.cell? ⟨H + 1, 4, none⟩ = some (.int .u64 (t : Int)) ∧ w'.cell? ⟨H + 1, 5, none⟩ = some (.bool c) ∧ w'.cell? ⟨N, 0, none⟩ = some (.int .i64 i) ∧ w'.cell? ⟨N, 1, none⟩ = some (.int .i64 k) ∧ w'.cell? ⟨N, 2, none⟩ = some (.int .i64 l) ∧ w'.cell? ⟨N, 3, none⟩ = some (.int .i64 s) ∧ w'.cell? ⟨N, 4, none⟩ = some (.int .u64 (t : Int)) ∧ w'.cell? ⟨N, 5, none⟩ = some (.bool c) ∧ (convert 26 9 (.slice aa 16 ca)).run Try.prog w' = .ok (.string (strOf ya)) w' ∧ (convert 26 9 (.slice ab 16 cb)).run Try.prog w' = .ok (.string (strOf ya)) w') (go_keep) (fail)
          go_wp2_with fail
          go_meet
          exact hE4.drew
        · have hy : Nd.bytes ⟨i, k, l, s, t, c⟩ ≠ Nd.bytes ⟨i', k', l', s', t', c'⟩ := fun h => by
            have e1 := ndDec_bytes _ hao ha
            rw [h, ndDec_bytes _ hbo hb] at e1
            exact hab (Option.some.inj e1).symm
          have he := fun w => nd_eql_ne _ _ hab w
          unfold Nd.cells at he
          simp only at he
          generalize Nd.bytes ⟨i, k, l, s, t, c⟩ = ya at *
          generalize Nd.bytes ⟨i', k', l', s', t', c'⟩ = yb at *
          have hyy : (ya == yb) = false := beq_eq_false_iff_ne.2 hy
          clear HEA HEB HE HF HDA hBa2 hob hob4 hBa4 hBb hX hy
          go_region_held3 (fun w' => w'.cell? ⟨H, 0, none⟩ = some (.int .i64 i) ∧ w'.cell? ⟨H, 1, none⟩ = some (.int .i64 k) ∧ w'.cell? ⟨H, 2, none⟩ = some (.int .i64 l) ∧ w'.cell? ⟨H, 3, none⟩ = some (.int .i64 s) ∧ w'.cell? ⟨H, 4, none⟩ = some (.int .u64 (t : Int)) ∧ w'.cell? ⟨H, 5, none⟩ = some (.bool c) ∧ w'.cell? ⟨H + 1, 0, none⟩ = some (.int .i64 i') ∧ w'.cell? ⟨H + 1, 1, none⟩ = some (.int .i64 k') ∧ w'.cell? ⟨H + 1, 2, none⟩ = some (.int .i64 l') ∧ w'.cell? ⟨H + 1, 3, none⟩ = some (.int .i64 s') ∧ w'.cell? ⟨H + 1, 4, none⟩ = some (.int .u64 (t' : Int)) ∧ w'.cell? ⟨H + 1, 5, none⟩ = some (.bool c') ∧ w'.cell? ⟨N, 0, none⟩ = some (.int .i64 i) ∧ w'.cell? ⟨N, 1, none⟩ = some (.int .i64 k) ∧ w'.cell? ⟨N, 2, none⟩ = some (.int .i64 l) ∧ w'.cell? ⟨N, 3, none⟩ = some (.int .i64 s) ∧ w'.cell? ⟨N, 4, none⟩ = some (.int .u64 (t : Int)) ∧ w'.cell? ⟨N, 5, none⟩ = some (.bool c) ∧ (convert 26 9 (.slice aa 16 ca)).run Try.prog w' = .ok (.string (strOf ya)) w' ∧ (convert 26 9 (.slice ab 16 cb)).run Try.prog w' = .ok (.string (strOf yb)) w') (go_keep) (fail)
          go_wp2_with fail
          go_meet
          exact hE4.drew
      · have heb := HEB.out
        rw [if_neg hbo] at heb
        subst heb
        have h12 : ((12 : Int) == 0) = false := by decide
        clear HEA HEB HE HF HDA hBa2 hob hob4 hBa4 hX
        have q1 : H < w4.heap.size := World.block_lt_of_cell? w4 ⟨H, 0, none⟩ c0
        have q2 : H + 1 < w4.heap.size := World.block_lt_of_cell? w4 ⟨H + 1, 0, none⟩ d0
        have q3 : N < w4.heap.size := World.block_lt_of_cell? w4 ⟨N, 0, none⟩ n0
        refine wp_region_over (by kernel_rfl) (by kernel_rfl) ?_
        repeat (go_big_quiet_step (fail))
        refine wpQuiet_nil ?_
        rintro _ ⟨nq, rfl⟩
        go_wp2_with fail
        go_meet
        exact hE4.step (below_over _ _)
    · have hea := HEA.out
      rw [if_neg hao] at hea
      subst hea
      go_wp2_with fail
      go_meet
      exact hE2
  case rest =>
    have hEc : Ext p w0 wc := hcut
    have hXc : Bs wc ax lx cx xs := hX.below (by have := (hE0.to (hEc.1.mono (Nat.le_of_lt (show H < p by omega)))).1; rw [HH.out] at this; exact this)
    have HDX := Lib.hid (ndec_any ax lx cx xs wc hXc HLX.out)
    clear HE HF hX hoa hob
    cases hdx : ndDec xs with
    | none =>
      have HZ := HDX.out
      rw [hdx] at HZ
      unfold decV zeroNd at HZ
      simp only [Option.getD_none, Option.isSome_none, Nd.cells] at HZ
      have HZ1 := Lib.hid HZ
      clear HDX HZ hdx
      go_wp2_with fail
      refine HZ1.out.mono ?_
      rintro e w5 ⟨rfl, hb5⟩
      have hE5 := hEc.step hb5
      go_wp2_with fail
      refine (node_known _).mono ?_
      rintro e w6 ⟨rfl, hb6⟩
      go_wp2_with fail
      go_ret
      have := (hE0.to (((hE5.alloc _).step hb6).1.mono (Nat.le_of_lt (show H < p by omega)))).1
      rw [HH.out] at this
      exact ⟨rfl, this⟩
    | some n =>
      obtain ⟨hok, hbx, hnt⟩ := ndDec_inv xs n hdx
      have HZ := HDX.out
      rw [hdx] at HZ
      unfold decV at HZ
      simp only [Option.getD_some, Option.isSome_some, if_true] at HZ
      have HN := Lib.hid (fun w => nenc_ok n w hok)
      have hX16 : lx = 16 := by rw [← hxl, hbx, Nd.bytes_length]
      subst hX16
      rw [← hbx] at HN
      obtain ⟨i2, k2, l2, s2, t2, c2⟩ := n
      unfold Nd.cells at HZ HN
      simp only at HZ HN
      have HZ1 := Lib.hid HZ
      have HHX := Lib.hid hbx
      clear HDX HZ hdx hok hbx
      go_wp2_with fail
      refine HZ1.out.mono ?_
      rintro e w5 ⟨rfl, hb5⟩
      have hE5 := hEc.step hb5
      have hX5 := hXc.below hb5
      go_wp2_with fail
      refine (HN.out _).mono ?_
      rintro e w6 ⟨v, rfl, ho, hb6⟩
      have hE6 := (hE5.alloc _).step hb6
      have hX6 := (hX5.alloc _).below hb6
      obtain ⟨ay, cy, rfl, hY⟩ := ho.bsn hxl
      have hsx := run_string hX6
      have hsy := run_string hY
      have hse := strOf_toList xs
      go_wp2_with fail
      refine (node_known _).mono ?_
      rintro e w7 ⟨rfl, hb7⟩
      go_wp2_with fail
      go_ret
      have := (hE0.to ((hE6.step hb7).1.mono (Nat.le_of_lt (show H < p by omega)))).1
      rw [HH.out] at this
      exact ⟨rfl, this⟩
end Go.Proofs.Ytmedamofmlkccaa
