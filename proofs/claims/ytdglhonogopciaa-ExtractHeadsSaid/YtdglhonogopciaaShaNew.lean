/- Contracts of sha.begun, sha.constants, sha.New. -/
import Derived.Test.YtdglhonogopciaaShaTurn
import Derived.Laws.Tables
namespace Go.Proofs.Ytdglhonogopciaa
open Go.RowKit

abbrev T64 : TypeId := 51
abbrev T8 : TypeId := 63
abbrev TA8 : TypeId := 50
abbrev TSm : TypeId := 67
abbrev TU : TypeId := 49
/-- an aggregate of constants, the value named -/
theorem wpList_build_to {P : Program} {ops : Array Oper} {rest : List Oper} {o : Oper} {a : Act} {w : World} {Q : Exit → Act → World → Prop} (hg : o.guard = none) (t : TypeId) (parts : Array (Nat × Operand)) (ho : o.op = .build t parts) (v : Array Value)
    (hf : P.built t (parts.map fun (i, x) => (i, a.eval x)).toList = some v) (h : wpList P ops Q rest (a.put o.dst (.agg v)) w) : wpList P ops Q (o :: rest) a w :=
  wpList_build hg t parts ho (by rw [hf]; rfl) (by rw [hf]; exact h)
def KV : Array Value := (KK.map uv).toArray
def BV : Array Value := (begunS.list.map uv).toArray
theorem Ext.setRow {B : Nat} {a w : World} (h : Ext B a w) {g : Nat} (hg : B ≤ g) (cs : Array Value) : Ext B a (w.setRow g cs) :=
  ⟨h.1.trans (c := w.setRow g cs) ⟨rfl, rfl, rfl, by simp, fun k hk => setRow_other w g k _ (by omega)⟩, by have := h.2; simp; omega⟩
theorem SB.ofRow {w : World} {g : Nat} {T : TypeId} {old : Array Value} (l : List UInt32) (h : w.heap[g]? = some (.cells old T (0, 0))) : SB (w.setRow g (l.map uv).toArray) g T [] l [] := by
  unfold SB
  rw [setRow_heap w g old _ T (0, 0) h]
  simp

set_option maxHeartbeats 1000000 in
set_option maxRecDepth 100000 in
theorem constants_any (w : World) :
    Calls Try.prog 43 #[] w fun e w' => e = .returned (.agg KV) ∧ Below w.heap.size w w' := by
  have hz := heap_alloc_new w (.cells #[.int .u32 0, .int .u32 0, .int .u32 0, .int .u32 0, .int .u32 0, .int .u32 0, .int .u32 0, .int .u32 0, .int .u32 0, .int .u32 0, .int .u32 0, .int .u32 0, .int .u32 0, .int .u32 0, .int .u32 0, .int .u32 0, .int .u32 0, .int .u32 0, .int .u32 0, .int .u32 0, .int .u32 0, .int .u32 0, .int .u32 0, .int .u32 0, .int .u32 0, .int .u32 0, .int .u32 0, .int .u32 0, .int .u32 0, .int .u32 0, .int .u32 0, .int .u32 0, .int .u32 0, .int .u32 0, .int .u32 0, .int .u32 0, .int .u32 0, .int .u32 0, .int .u32 0, .int .u32 0, .int .u32 0, .int .u32 0, .int .u32 0, .int .u32 0, .int .u32 0, .int .u32 0, .int .u32 0, .int .u32 0, .int .u32 0, .int .u32 0, .int .u32 0, .int .u32 0, .int .u32 0, .int .u32 0, .int .u32 0, .int .u32 0, .int .u32 0, .int .u32 0, .int .u32 0, .int .u32 0, .int .u32 0, .int .u32 0, .int .u32 0, .int .u32 0] 51)
  have hE := (Ext.refl w).alloc (.cells #[.int .u32 0, .int .u32 0, .int .u32 0, .int .u32 0, .int .u32 0, .int .u32 0, .int .u32 0, .int .u32 0, .int .u32 0, .int .u32 0, .int .u32 0, .int .u32 0, .int .u32 0, .int .u32 0, .int .u32 0, .int .u32 0, .int .u32 0, .int .u32 0, .int .u32 0, .int .u32 0, .int .u32 0, .int .u32 0, .int .u32 0, .int .u32 0, .int .u32 0, .int .u32 0, .int .u32 0, .int .u32 0, .int .u32 0, .int .u32 0, .int .u32 0, .int .u32 0, .int .u32 0, .int .u32 0, .int .u32 0, .int .u32 0, .int .u32 0, .int .u32 0, .int .u32 0, .int .u32 0, .int .u32 0, .int .u32 0, .int .u32 0, .int .u32 0, .int .u32 0, .int .u32 0, .int .u32 0, .int .u32 0, .int .u32 0, .int .u32 0, .int .u32 0, .int .u32 0, .int .u32 0, .int .u32 0, .int .u32 0, .int .u32 0, .int .u32 0, .int .u32 0, .int .u32 0, .int .u32 0, .int .u32 0, .int .u32 0, .int .u32 0, .int .u32 0] 51)
  obtain ⟨G, hG⟩ : ∃ G, G = w.heap.size := ⟨_, rfl⟩
  rw [← hG] at hz hE ⊢
  have HG := Lib.hid hG
  have HZ := Lib.hid hz
  clear hz hG
  go_enter Try.func43, Try.ntmps43
  go_upto_region 1 with fail
  rw [← HG.out]
  generalize w.alloc (.cells #[.int .u32 0, .int .u32 0, .int .u32 0, .int .u32 0, .int .u32 0, .int .u32 0, .int .u32 0, .int .u32 0, .int .u32 0, .int .u32 0, .int .u32 0, .int .u32 0, .int .u32 0, .int .u32 0, .int .u32 0, .int .u32 0, .int .u32 0, .int .u32 0, .int .u32 0, .int .u32 0, .int .u32 0, .int .u32 0, .int .u32 0, .int .u32 0, .int .u32 0, .int .u32 0, .int .u32 0, .int .u32 0, .int .u32 0, .int .u32 0, .int .u32 0, .int .u32 0, .int .u32 0, .int .u32 0, .int .u32 0, .int .u32 0, .int .u32 0, .int .u32 0, .int .u32 0, .int .u32 0, .int .u32 0, .int .u32 0, .int .u32 0, .int .u32 0, .int .u32 0, .int .u32 0, .int .u32 0, .int .u32 0, .int .u32 0, .int .u32 0, .int .u32 0, .int .u32 0, .int .u32 0, .int .u32 0, .int .u32 0, .int .u32 0, .int .u32 0, .int .u32 0, .int .u32 0, .int .u32 0, .int .u32 0, .int .u32 0, .int .u32 0, .int .u32 0] 51) = w0 at *
  go_wp2_with (first | (refine wpList_build_to rfl T64 _ rfl KV (by kernel_rfl) ?_) | (refine wpList_store_row rfl T64 _ _ rfl G KV rfl rfl T64 _ HZ.out (by kernel_rfl) (by kernel_rfl) (by kernel_rfl) ?_))
  refine bodyPost_ret (v := .agg KV) ?_ rfl ⟨rfl, ?_⟩
  · exact results_cell_row rfl _ _ G T64 _ (0, 0) _ rfl (setRow_heap w0 G _ _ T64 (0, 0) HZ.out) Try.underlying51 rfl (by kernel_rfl)
  · exact (hE.setRow (Nat.le_refl _) _).1

set_option maxHeartbeats 1000000 in
set_option maxRecDepth 100000 in
theorem begun_any (w : World) :
    Calls Try.prog 42 #[] w fun e w' => e = .returned (.agg BV) ∧ Below w.heap.size w w' := by
  have hz := heap_alloc_new w (.cells #[.int .u32 0, .int .u32 0, .int .u32 0, .int .u32 0, .int .u32 0, .int .u32 0, .int .u32 0, .int .u32 0] 63)
  have hE := (Ext.refl w).alloc (.cells #[.int .u32 0, .int .u32 0, .int .u32 0, .int .u32 0, .int .u32 0, .int .u32 0, .int .u32 0, .int .u32 0] 63)
  obtain ⟨G, hG⟩ : ∃ G, G = w.heap.size := ⟨_, rfl⟩
  rw [← hG] at hz hE ⊢
  have HG := Lib.hid hG
  have HZ := Lib.hid hz
  clear hz hG
  go_enter Try.func42, Try.ntmps42
  go_upto_region 1 with fail
  rw [← HG.out]
  generalize w.alloc (.cells #[.int .u32 0, .int .u32 0, .int .u32 0, .int .u32 0, .int .u32 0, .int .u32 0, .int .u32 0, .int .u32 0] 63) = w0 at *
  go_wp2_with (first | (refine wpList_build_to rfl T8 _ rfl BV (by kernel_rfl) ?_) | (refine wpList_store_row rfl T8 _ _ rfl G BV rfl rfl T8 _ HZ.out (by kernel_rfl) (by kernel_rfl) (by kernel_rfl) ?_))
  refine bodyPost_ret (v := .agg BV) ?_ rfl ⟨rfl, ?_⟩
  · exact results_cell_row rfl _ _ G T8 _ (0, 0) _ rfl (setRow_heap w0 G _ _ T8 (0, 0) HZ.out) Try.underlying63 rfl (by kernel_rfl)
  · exact (hE.setRow (Nat.le_refl _) _).1

/-- a stream: its state, the constants, what it holds still (in row g of our own), and how many bytes came -/
def Strm (w : World) (B p : Nat) (g : Option Nat) (xs : List UInt8) : Prop :=
  B ≤ p ∧ ∃ v, SB w p 67 [] (hashed xs).list (KK.map uv ++ [v, .int .i64 (xs.length : Int)]) ∧ Own w B v (held xs) ∧ v.ownBlock = g ∧ g ≠ some p

set_option maxHeartbeats 1000000 in
set_option maxRecDepth 100000 in
theorem shanew_any (w : World) :
    Calls Try.prog 32 #[] w fun e w' => ∃ p, e = .returned (.pointer (some ⟨p, 0, none⟩)) ∧ Strm w' w.heap.size p none [] ∧ Below w.heap.size w w' := by
  go_enter Try.func32, Try.ntmps32
  go_wp2_with fail
  refine (begun_any _).mono ?_
  rintro e w1 ⟨rfl, hb1⟩
  go_wp2_with fail
  refine (constants_any _).mono ?_
  rintro e w2 ⟨rfl, hb2⟩
  go_wp2_with (first | (refine wpList_build_to rfl TSm _ rfl (BV ++ (KV ++ #[.slice none 0 0, .int .i64 0])) (by kernel_rfl) ?_))
  go_ret
  have hE := (((Ext.refl w).step hb1).step hb2).alloc (.cells (BV ++ (KV ++ #[.slice none 0 0, .int .i64 0])) 67)
  refine ⟨w2.heap.size, rfl, ⟨?_, .slice none 0 0, ?_, Own.nil _ _, rfl, by simp⟩, hE.1⟩
  · exact (((Ext.refl w).step hb1).step hb2).2
  · refine (heap_alloc_new w2 _).trans ?_
    congr 2
end Go.Proofs.Ytdglhonogopciaa
