/- plan and known of the statements on point. -/
import Derived.Test.YtdglhonogopciaaDoorPtDec
import Derived.Test.YtdglhonogopciaaDoorLayRef
import Derived.Test.YtdglhonogopciaaDoorWithin
namespace Go.Proofs.YtdglhonogopciaaDoor
open Go.RowKit

theorem store3 {w : World} {b : Nat} {t : TypeId} {x0 x1 x2 v0 v1 v2 : Value} (h : w.heap[b]? = some (.cells #[x0, x1, x2] t (0, 0))) :
    (((w.setCell ⟨b, 0, none⟩ v0).setCell ⟨b, 1, none⟩ v1).setCell ⟨b, 2, none⟩ v2).heap[b]? = some (.cells #[v0, v1, v2] t (0, 0)) := by
  have h0 : (w.setCell ⟨b, 0, none⟩ v0).heap[b]? = some (.cells #[v0, x1, x2] t (0, 0)) := cells_set h
  have h1 : ((w.setCell ⟨b, 0, none⟩ v0).setCell ⟨b, 1, none⟩ v1).heap[b]? = some (.cells #[v0, v1, x2] t (0, 0)) := cells_set h0
  exact cells_set h1
theorem store3o {w : World} {b c : Nat} {o : Option Obj} (v0 v1 v2 : Value) (h : w.heap[c]? = o) (hb : c ≠ b) :
    (((w.setCell ⟨b, 0, none⟩ v0).setCell ⟨b, 1, none⟩ v1).setCell ⟨b, 2, none⟩ v2).heap[c]? = o := cells_far (cells_far (cells_far h hb) hb) hb
theorem Ext.set3 {B : Nat} {a w : World} (h : Ext B a w) {b : Nat} (hb : B ≤ b) (v0 v1 v2 : Value) : Ext B a (((w.setCell ⟨b, 0, none⟩ v0).setCell ⟨b, 1, none⟩ v1).setCell ⟨b, 2, none⟩ v2) :=
  ((h.setCell (p := ⟨b, 0, none⟩) hb v0).setCell (p := ⟨b, 1, none⟩) hb v1).setCell (p := ⟨b, 2, none⟩) hb v2
/-- the disk's size -/
def ptSz (n : Int) : Int := 64 + within n 0 200
theorem ptSz_bd (n : Int) : 64 ≤ ptSz n ∧ ptSz n ≤ 264 := by have := within_bd n 0 200 (by decide); unfold ptSz; omega
theorem ptPlan (n : Int) : isPlan (ptSz n) (ptSz n / 4) (seg (ptSz n)) := by have := ptSz_bd n; exact ⟨by omega, by omega, rfl, rfl⟩
set_option maxHeartbeats 1000000 in
set_option maxRecDepth 100000 in
theorem plan_any (n : Int) (w : World) : Calls Tryd.prog 10 #[.int .i64 n] w fun e w' => e = .returned (.tuple #[.agg #[.int .i64 (ptSz n), .int .i64 (ptSz n / 4), .int .i64 (seg (ptSz n))], .agg #[.int .i64 (ptSz n), .int .i64 (ptSz n / 4), .int .i64 (seg (ptSz n))]]) ∧ Below w.heap.size w w' := by
  obtain ⟨sz, hsz⟩ : ∃ sz, sz = ptSz n := ⟨_, rfl⟩
  have hbd := ptSz_bd n
  rw [← hsz] at hbd ⊢
  obtain ⟨H, hH⟩ : ∃ H, H = w.heap.size := ⟨_, rfl⟩
  have hE := ((Ext.refl w).alloc (.cells #[.int .i64 0, .int .i64 0, .int .i64 0] 31)).alloc (.cells #[.int .i64 0, .int .i64 0, .int .i64 0] 32)
  have h1 := (Below.heap_alloc (w.alloc (.cells #[.int .i64 0, .int .i64 0, .int .i64 0] 31)) (.cells #[.int .i64 0, .int .i64 0, .int .i64 0] 32) w.heap.size (by simp)).trans (heap_alloc_new w (.cells #[.int .i64 0, .int .i64 0, .int .i64 0] 31))
  have h2 := heap_alloc_new (w.alloc (.cells #[.int .i64 0, .int .i64 0, .int .i64 0] 31)) (.cells #[.int .i64 0, .int .i64 0, .int .i64 0] 32)
  rw [World.size_alloc] at h2
  have i1 : IntKind.i64.wrap (64 + within n 0 200) = sz := by rw [IntWalk.i64_in _ (by have := within_bd n 0 200 (by decide); omega), hsz]; rfl
  rw [← hH] at hE h1 h2 ⊢
  have HH := Lib.hid hH
  have HW := Lib.hid (And.intro hE (And.intro h1 h2))
  clear hE h1 h2 hH hsz
  go_enter Tryd.func10, Tryd.ntmps10
  go_wp2_with fail
  rw [← HH.out]
  obtain ⟨hE, h1, h2⟩ := HW.out
  clear HW
  generalize (w.alloc (.cells #[.int .i64 0, .int .i64 0, .int .i64 0] 31)).alloc (.cells #[.int .i64 0, .int .i64 0, .int .i64 0] 32) = w0 at *
  refine (within_any n 0 200 w0 (by decide) (by decide) (by decide)).mono ?_
  rintro e w1 ⟨rfl, rfl⟩
  go_wp2_with fail
  refine (rof_ok sz w0 hbd.1 (by omega)).mono ?_
  rintro e w2 ⟨rfl, hb⟩
  replace hE := hE.step hb
  replace h1 := (hb.block H (lt_of_heap h1)).trans h1
  replace h2 := (hb.block (H + 1) (lt_of_heap h2)).trans h2
  have hl2 := lt_of_heap h2
  clear hb
  have h4 := heap_alloc_new w2 (.cells #[.int .i64 sz, .int .i64 (sz / 4), .int .i64 (seg sz)] 32)
  replace hE := hE.alloc (.cells #[.int .i64 sz, .int .i64 (sz / 4), .int .i64 (seg sz)] 32)
  replace h1 := (Below.heap_alloc w2 (.cells #[.int .i64 sz, .int .i64 (sz / 4), .int .i64 (seg sz)] 32) H (by omega)).trans h1
  replace h2 := (Below.heap_alloc w2 (.cells #[.int .i64 sz, .int .i64 (sz / 4), .int .i64 (seg sz)] 32) (H + 1) hl2).trans h2
  go_upto_region 2 with fail
  generalize w2.alloc (.cells #[.int .i64 sz, .int .i64 (sz / 4), .int .i64 (seg sz)] 32) = w3 at *
  obtain ⟨X, hX⟩ : ∃ X, X = w2.heap.size := ⟨_, rfl⟩
  rw [← hX] at h4 hl2 ⊢
  clear hX
  have hXne : X ≠ H ∧ X ≠ H + 1 := by omega
  obtain ⟨hx1, hx2⟩ := hXne
  obtain ⟨wz, hwz⟩ : ∃ wz, wz = w3.drew := ⟨_, rfl⟩
  have hE : Ext H w wz := by rw [hwz]; exact hE.drew
  have h1 : wz.heap[H]? = some (.cells #[.int .i64 0, .int .i64 0, .int .i64 0] 31 (0, 0)) := by rw [hwz]; exact h1
  have h2 : wz.heap[H + 1]? = some (.cells #[.int .i64 0, .int .i64 0, .int .i64 0] 32 (0, 0)) := by rw [hwz]; exact h2
  have h4 : wz.heap[X]? = some (.cells #[.int .i64 sz, .int .i64 (sz / 4), .int .i64 (seg sz)] 32 (0, 0)) := by rw [hwz]; exact h4
  have g0 := cells_at h4 0
  have g1 := cells_at h4 1
  have g2 := cells_at h4 2
  simp only [List.getElem?_toArray, List.getElem?_cons_zero, List.getElem?_cons_succ] at g0 g1 g2
  refine heldB_start (fun _ => true) (fun w' => w'.cell? ⟨X, 0, none⟩ = some (.int .i64 sz) ∧ w'.cell? ⟨X, 1, none⟩ = some (.int .i64 (sz / 4)) ∧ w'.cell? ⟨X, 2, none⟩ = some (.int .i64 (seg sz))) (by kernel_rfl) (by rw [← hwz]; exact ⟨g0, g1, g2⟩) (fun hHeld => ?_)
  rw [← hwz] at hHeld ⊢
  clear hwz g0 g1 g2
  refine heldB_take (i := 0) (v := ?_) 13 rfl (by kernel_rfl) (by kernel_rfl) (by kernel_rfl) (by kernel_rfl) (fun _ _ _ h => h) rfl (by assumption) (Or.inl ⟨by rfl, ?_⟩) ?_
  rotate_left
  · intro w hSw; go_simp; (try with_reducible rfl)
  (try simp only [List.set_cons_zero, List.set_cons_succ])
  refine heldB_take (i := 1) (v := ?_) 14 rfl (by kernel_rfl) (by kernel_rfl) (by kernel_rfl) (by kernel_rfl) (fun _ _ _ h => h) rfl (by assumption) (Or.inl ⟨by rfl, ?_⟩) ?_
  rotate_left
  · intro w hSw; obtain ⟨k0, k1, k2⟩ := hSw; go_simp; (try with_reducible rfl)
  (try simp only [List.set_cons_zero, List.set_cons_succ])
  refine heldB_take (i := 2) (v := ?_) 15 rfl (by kernel_rfl) (by kernel_rfl) (by kernel_rfl) (by kernel_rfl) (fun _ _ _ h => h) rfl (by assumption) (Or.inl ⟨by rfl, ?_⟩) ?_
  rotate_left
  · intro w hSw; go_simp; (try with_reducible rfl)
  (try simp only [List.set_cons_zero, List.set_cons_succ])
  refine heldB_take (i := 3) (v := ?_) 16 rfl (by kernel_rfl) (by kernel_rfl) (by kernel_rfl) (by kernel_rfl) (fun _ _ _ h => h) rfl (by assumption) (Or.inl ⟨by rfl, ?_⟩) ?_
  rotate_left
  · intro w hSw; obtain ⟨k0, k1, k2⟩ := hSw; go_simp; (try with_reducible rfl)
  (try simp only [List.set_cons_zero, List.set_cons_succ])
  refine heldB_take (i := 4) (v := ?_) 17 rfl (by kernel_rfl) (by kernel_rfl) (by kernel_rfl) (by kernel_rfl) (fun _ _ _ h => h) rfl (by assumption) (Or.inl ⟨by rfl, ?_⟩) ?_
  rotate_left
  · intro w hSw; go_simp; (try with_reducible rfl)
  (try simp only [List.set_cons_zero, List.set_cons_succ])
  refine heldB_take (i := 5) (v := ?_) 18 rfl (by kernel_rfl) (by kernel_rfl) (by kernel_rfl) (by kernel_rfl) (fun _ _ _ h => h) rfl (by assumption) (Or.inl ⟨by rfl, ?_⟩) ?_
  rotate_left
  · intro w hSw; obtain ⟨k0, k1, k2⟩ := hSw; go_simp; (try with_reducible rfl)
  (try simp only [List.set_cons_zero, List.set_cons_succ])
  refine heldB_take (i := 6) (v := ?_) 19 rfl (by kernel_rfl) (by kernel_rfl) (by kernel_rfl) (by kernel_rfl) (fun _ _ _ h => h) rfl (by assumption) (Or.inl ⟨by rfl, ?_⟩) ?_
  rotate_left
  · intro w hSw; go_simp; (try with_reducible rfl)
  (try simp only [List.set_cons_zero, List.set_cons_succ])
  refine heldB_take (i := 7) (v := ?_) 20 rfl (by kernel_rfl) (by kernel_rfl) (by kernel_rfl) (by kernel_rfl) (fun _ _ _ h => h) rfl (by assumption) (Or.inl ⟨by rfl, ?_⟩) ?_
  rotate_left
  · intro w hSw; obtain ⟨k0, k1, k2⟩ := hSw; go_simp; (try with_reducible rfl)
  (try simp only [List.set_cons_zero, List.set_cons_succ])
  refine heldB_one 8 (by kernel_rfl) rfl (fun K hK => ?_)
  have h10 := cells_at h1 0
  have h11 := cells_at h1 1
  have h12 := cells_at h1 2
  have fh10 := frozen_at h1 0
  have fh11 := frozen_at h1 1
  have fh12 := frozen_at h1 2
  simp only [List.getElem?_toArray, List.getElem?_cons_zero, List.getElem?_cons_succ] at h10 h11 h12
  have e1 := store3 (v0 := .int .i64 sz) (v1 := .int .i64 (sz / 4)) (v2 := .int .i64 (seg sz)) h1
  have e2 := store3o (b := H) (.int .i64 sz) (.int .i64 (sz / 4)) (.int .i64 (seg sz)) h2 (by omega)
  have e4 := store3o (b := H) (.int .i64 sz) (.int .i64 (sz / 4)) (.int .i64 (seg sz)) h4 (by omega)
  have eE := hE.set3 (b := H) (Nat.le_refl _) (.int .i64 sz) (.int .i64 (sz / 4)) (.int .i64 (seg sz))
  go_simp
  generalize (((wz.setCell ⟨H, 0, none⟩ (.int .i64 sz)).setCell ⟨H, 1, none⟩ (.int .i64 (sz / 4))).setCell ⟨H, 2, none⟩ (.int .i64 (seg sz))) = w4 at *
  clear h10 h11 h12 fh10 fh11 fh12 h1 h2 h4 hE
  have g0 := cells_at e4 0
  have g1 := cells_at e4 1
  have g2 := cells_at e4 2
  simp only [List.getElem?_toArray, List.getElem?_cons_zero, List.getElem?_cons_succ] at g0 g1 g2
  replace hHeld : (fun w' => w'.cell? ⟨X, 0, none⟩ = some (.int .i64 sz) ∧ w'.cell? ⟨X, 1, none⟩ = some (.int .i64 (sz / 4)) ∧ w'.cell? ⟨X, 2, none⟩ = some (.int .i64 (seg sz))) w4 := ⟨g0, g1, g2⟩
  refine hK.out _ _ (fun _ => hHeld) ?_
  clear hK K
  refine heldB_one 9 (by kernel_rfl) rfl (fun K hK => ?_)
  have e20 := cells_at e2 0
  have e21 := cells_at e2 1
  have e22 := cells_at e2 2
  have fe20 := frozen_at e2 0
  have fe21 := frozen_at e2 1
  have fe22 := frozen_at e2 2
  simp only [List.getElem?_toArray, List.getElem?_cons_zero, List.getElem?_cons_succ] at e20 e21 e22
  have e3 := store3 (v0 := .int .i64 sz) (v1 := .int .i64 (sz / 4)) (v2 := .int .i64 (seg sz)) e2
  have e5 := store3o (b := H + 1) (.int .i64 sz) (.int .i64 (sz / 4)) (.int .i64 (seg sz)) e1 (by omega)
  have e6 := store3o (b := H + 1) (.int .i64 sz) (.int .i64 (sz / 4)) (.int .i64 (seg sz)) e4 (by omega)
  have eF := eE.set3 (b := H + 1) (Nat.le_succ _) (.int .i64 sz) (.int .i64 (sz / 4)) (.int .i64 (seg sz))
  go_simp
  generalize (((w4.setCell ⟨H + 1, 0, none⟩ (.int .i64 sz)).setCell ⟨H + 1, 1, none⟩ (.int .i64 (sz / 4))).setCell ⟨H + 1, 2, none⟩ (.int .i64 (seg sz))) = w5 at *
  have g0 := cells_at e6 0
  have g1 := cells_at e6 1
  have g2 := cells_at e6 2
  simp only [List.getElem?_toArray, List.getElem?_cons_zero, List.getElem?_cons_succ] at g0 g1 g2
  replace hHeld : (fun w' => w'.cell? ⟨X, 0, none⟩ = some (.int .i64 sz) ∧ w'.cell? ⟨X, 1, none⟩ = some (.int .i64 (sz / 4)) ∧ w'.cell? ⟨X, 2, none⟩ = some (.int .i64 (seg sz))) w5 := ⟨g0, g1, g2⟩
  refine hK.out _ _ (fun _ => hHeld) ?_
  clear hK K
  refine heldB_done (by kernel_rfl) ?_ _
  have r0 := cells_at e5 0
  have r1 := cells_at e5 1
  have r2 := cells_at e5 2
  have s0 := cells_at e3 0
  have s1 := cells_at e3 1
  have s2 := cells_at e3 2
  simp only [List.getElem?_toArray, List.getElem?_cons_zero, List.getElem?_cons_succ] at r0 r1 r2 s0 s1 s2
  go_wp2_with fail
  exact bodyPost_ret (v := .tuple #[.agg #[.int .i64 sz, .int .i64 (sz / 4), .int .i64 (seg sz)], .agg #[.int .i64 sz, .int .i64 (sz / 4), .int .i64 (seg sz)]]) (by simp [results, Tryd.results10, go_sem, r0, r1, r2, s0, s1, s2]) rfl ⟨rfl, eF.1⟩
end Go.Proofs.YtdglhonogopciaaDoor
