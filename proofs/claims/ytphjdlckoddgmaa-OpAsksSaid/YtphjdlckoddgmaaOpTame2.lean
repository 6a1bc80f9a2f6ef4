/- The contract of permafrostkeep.Tame. -/
import Derived.Test.YtphjdlckoddgmaaOpTame
import Derived.Test.YtphjdlckoddgmaaHeld
import Derived.Test.YtphjdlckoddgmaaTools2
import Derived.Deep.DeepCutAuto
namespace Go.Proofs.Ytphjdlckoddgmaa
open Go.RowKit

theorem below9 {B : Nat} {a w : World} {b : Nat} (h : Below B a w) (hb : B ≤ b) (v0 v1 v2 v3 v4 v5 v6 v7 v8 : Value) :
    Below B a (((((((((w.setCell ⟨b, 0, none⟩ v0).setCell ⟨b, 1, none⟩ v1).setCell ⟨b, 2, none⟩ v2).setCell ⟨b, 3, none⟩ v3).setCell ⟨b, 4, none⟩ v4).setCell ⟨b, 5, none⟩ v5).setCell ⟨b, 6, none⟩ v6).setCell ⟨b, 7, none⟩ v7).setCell ⟨b, 8, none⟩ v8) :=
  ((((((((h.setCell (p := ⟨b, 0, none⟩) hb _).setCell (p := ⟨b, 1, none⟩) hb _).setCell (p := ⟨b, 2, none⟩) hb _).setCell (p := ⟨b, 3, none⟩) hb _).setCell (p := ⟨b, 4, none⟩) hb _).setCell (p := ⟨b, 5, none⟩) hb _).setCell (p := ⟨b, 6, none⟩) hb _).setCell (p := ⟨b, 7, none⟩) hb _).setCell (p := ⟨b, 8, none⟩) hb _
theorem store9 {w : World} {b : Nat} {t : TypeId} {x0 x1 x2 x3 x4 x5 x6 x7 x8 v0 v1 v2 v3 v4 v5 v6 v7 v8 : Value} (h : w.heap[b]? = some (.cells #[x0, x1, x2, x3, x4, x5, x6, x7, x8] t (0, 0))) :
    (((((((((w.setCell ⟨b, 0, none⟩ v0).setCell ⟨b, 1, none⟩ v1).setCell ⟨b, 2, none⟩ v2).setCell ⟨b, 3, none⟩ v3).setCell ⟨b, 4, none⟩ v4).setCell ⟨b, 5, none⟩ v5).setCell ⟨b, 6, none⟩ v6).setCell ⟨b, 7, none⟩ v7).setCell ⟨b, 8, none⟩ v8).heap[b]? =
      some (.cells #[v0, v1, v2, v3, v4, v5, v6, v7, v8] t (0, 0)) := by
  have h0 : (w.setCell ⟨b, 0, none⟩ v0).heap[b]? = some (.cells #[v0, x1, x2, x3, x4, x5, x6, x7, x8] t (0, 0)) := cells_set h
  have h1 : ((w.setCell ⟨b, 0, none⟩ v0).setCell ⟨b, 1, none⟩ v1).heap[b]? = some (.cells #[v0, v1, x2, x3, x4, x5, x6, x7, x8] t (0, 0)) := cells_set h0
  have h2 : (((w.setCell ⟨b, 0, none⟩ v0).setCell ⟨b, 1, none⟩ v1).setCell ⟨b, 2, none⟩ v2).heap[b]? = some (.cells #[v0, v1, v2, x3, x4, x5, x6, x7, x8] t (0, 0)) := cells_set h1
  have h3 : ((((w.setCell ⟨b, 0, none⟩ v0).setCell ⟨b, 1, none⟩ v1).setCell ⟨b, 2, none⟩ v2).setCell ⟨b, 3, none⟩ v3).heap[b]? = some (.cells #[v0, v1, v2, v3, x4, x5, x6, x7, x8] t (0, 0)) := cells_set h2
  have h4 : (((((w.setCell ⟨b, 0, none⟩ v0).setCell ⟨b, 1, none⟩ v1).setCell ⟨b, 2, none⟩ v2).setCell ⟨b, 3, none⟩ v3).setCell ⟨b, 4, none⟩ v4).heap[b]? = some (.cells #[v0, v1, v2, v3, v4, x5, x6, x7, x8] t (0, 0)) := cells_set h3
  have h5 : ((((((w.setCell ⟨b, 0, none⟩ v0).setCell ⟨b, 1, none⟩ v1).setCell ⟨b, 2, none⟩ v2).setCell ⟨b, 3, none⟩ v3).setCell ⟨b, 4, none⟩ v4).setCell ⟨b, 5, none⟩ v5).heap[b]? = some (.cells #[v0, v1, v2, v3, v4, v5, x6, x7, x8] t (0, 0)) := cells_set h4
  have h6 : (((((((w.setCell ⟨b, 0, none⟩ v0).setCell ⟨b, 1, none⟩ v1).setCell ⟨b, 2, none⟩ v2).setCell ⟨b, 3, none⟩ v3).setCell ⟨b, 4, none⟩ v4).setCell ⟨b, 5, none⟩ v5).setCell ⟨b, 6, none⟩ v6).heap[b]? = some (.cells #[v0, v1, v2, v3, v4, v5, v6, x7, x8] t (0, 0)) := cells_set h5
  have h7 : ((((((((w.setCell ⟨b, 0, none⟩ v0).setCell ⟨b, 1, none⟩ v1).setCell ⟨b, 2, none⟩ v2).setCell ⟨b, 3, none⟩ v3).setCell ⟨b, 4, none⟩ v4).setCell ⟨b, 5, none⟩ v5).setCell ⟨b, 6, none⟩ v6).setCell ⟨b, 7, none⟩ v7).heap[b]? = some (.cells #[v0, v1, v2, v3, v4, v5, v6, v7, x8] t (0, 0)) := cells_set h6
  exact cells_set h7
def AtB (w : World) (b : Nat) (o : Obj) : Prop := w.heap[b]? = some o
theorem AtB.below {w w' : World} {b : Nat} {o : Obj} (h : AtB w b o) (hb : Below w.heap.size w w') : AtB w' b o := (hb.block b (lt_of_heap h)).trans h
theorem within_b (n lo hi : Int) (w : World) (h1 : lo ≤ hi) (h2 : -1000000000000000 ≤ lo) (h3 : hi ≤ 1000000000000000) :
    Calls Try.prog 11 #[.int .i64 n, .int .i64 lo, .int .i64 hi] w fun e w' => e = .returned (.int .i64 (within n lo hi)) ∧ Below w.heap.size w w' :=
  (within_any n lo hi w h1 h2 h3).mono fun e w' ⟨h, h'⟩ => ⟨h, by subst h'; exact Below.refl _ _⟩
theorem cutb_any (n : Nat) (a : Option Addr) (len cap : Nat) (w : World) (h1 : len ≤ cap) (hn : n ≤ 1000000000000) :
    Calls Try.prog 15 #[.slice a len cap, .int .i64 (n : Int)] w fun e w' => e = .returned (.slice a (min len n) cap) ∧ Below w.heap.size w w' :=
  (cut_any n a len cap w h1 hn).mono fun e w' ⟨h, h'⟩ => ⟨h, by subst h'; exact Below.refl _ _⟩

/-- an operation that is made tame -/
def tameCells (k : Int) (p1 p2 : List UInt8) (fd at_ n : Int) (til : Nat) (sn : Int) (da : Option Addr) (dl dc : Nat) : Array Value :=
  ovCells k (strOf p1) (strOf p2) (within fd 0 3) (within at_ 0 50) (within n 0 60) (til % 12) sn da (min dl 40) dc

set_option maxHeartbeats 16000000 in
set_option maxRecDepth 100000 in
theorem tame_any (k : Int) (ps ts : ByteArray) (fd at_ n : Int) (til : Nat) (sn : Int) (da : Option Addr) (dl dc : Nat) (hcap : dl ≤ dc) (w : World) :
    Calls Try.prog 10 #[.agg (ovCells k ps ts fd at_ n til sn da dl dc)] w fun e w' => (∃ p1 p2 sn', e = .returned (.agg (tameCells k p1 p2 fd at_ n til sn' da dl dc)) ∧ p1.length ≤ 10 ∧ p2.length ≤ 10 ∧ 0 ≤ sn' ∧ sn' ≤ 4) ∧ Below w.heap.size w w' := by
  obtain ⟨H, hH⟩ : ∃ H, H = w.heap.size := ⟨_, rfl⟩
  have HH := Lib.hid hH
  have hO := OvAt.of (heap_alloc_new w (.cells (ovCells k ps ts fd at_ n til sn da dl dc) 25))
  have hlt := size_alloc w (.cells (ovCells k ps ts fd at_ n til sn da dl dc) 25)
  have hE := (Ext.refl w).alloc (.cells (ovCells k ps ts fd at_ n til sn da dl dc) 25)
  have hsz : (w.alloc (.cells (ovCells k ps ts fd at_ n til sn da dl dc) 25)).heap.size = w.heap.size + 1 := by simp
  unfold ovCells at *
  go_enter Try.func10, Try.ntmps10
  go_upto_region 1 with fail
  generalize w.alloc _ = w1 at *
  have hR := heap_alloc_new w1 (.cells #[.int .i64 0, .string ⟨#[]⟩, .string ⟨#[]⟩, .int .i64 0, .int .i64 0, .int .i64 0, .int .u64 0, .int .i64 0, .slice none 0 0] 25)
  have hO := hO.below (Below.alloc (Below.refl _ _) (Nat.le_refl _) (.cells #[.int .i64 0, .string ⟨#[]⟩, .string ⟨#[]⟩, .int .i64 0, .int .i64 0, .int .i64 0, .int .u64 0, .int .i64 0, .slice none 0 0] 25)) hlt
  have hltR := size_alloc w1 (.cells #[.int .i64 0, .string ⟨#[]⟩, .string ⟨#[]⟩, .int .i64 0, .int .i64 0, .int .i64 0, .int .u64 0, .int .i64 0, .slice none 0 0] 25)
  have hE := hE.alloc (.cells #[.int .i64 0, .string ⟨#[]⟩, .string ⟨#[]⟩, .int .i64 0, .int .i64 0, .int .i64 0, .int .u64 0, .int .i64 0, .slice none 0 0] 25)
  rw [← hsz]
  rw [← hH] at hO hlt hE ⊢
  have hHR : H < w1.heap.size := hlt
  have hlt2 := Nat.lt_trans hHR hltR
  clear hlt
  clear hsz hH
  generalize w1.alloc _ = w0 at *
  generalize w1.heap.size = R at *
  have hRX := hltR
  have hwd0 := Below.refl w0.heap.size w0
  go_cut [3] (fun sv wx => ∃ X p1 p2, sv = .pointer (some ⟨X, 0, none⟩) ∧ p1.length ≤ 10 ∧ p2.length ≤ 10 ∧ wx.heap[X]? = some (.cells (tameCells k p1 p2 fd at_ n til (within sn 0 4) da dl dc) 25 (0, 0)) ∧ R < X ∧ Ext H w wx ∧ OvAt wx H k ps ts fd at_ n til sn da dl dc ∧ wx.heap[R]? = some (.cells #[.int .i64 0, .string ⟨#[]⟩, .string ⟨#[]⟩, .int .i64 0, .int .i64 0, .int .i64 0, .int .u64 0, .int .i64 0, .slice none 0 0] 25 (0, 0)))
  case first =>
    obtain ⟨wd, hwd⟩ : ∃ wd, wd = w0.drew := ⟨_, rfl⟩
    have hb : Below w0.heap.size w0 wd := by rw [hwd]; exact (Below.refl _ _).drew
    clear hb
    have HWD : Below w0.heap.size w0 wd := by rw [hwd]; exact (Below.refl _ _).drew
    refine held_start (by kernel_rfl) (fun hHeld => ?_)
    rw [← hwd] at hHeld ⊢
    have hE := hE.step HWD
    have hO := hO.below HWD hlt2
    have hR := (HWD.block R hltR).trans hR
    have hltR := Nat.lt_of_lt_of_le hltR HWD.size
    have hlt := Nat.lt_of_lt_of_le hlt2 HWD.size
    have HO := Lib.hid hO
    obtain ⟨c0, c1, c2, c3, c4, c5, c6, c7, c8⟩ := hO
    have hO := HO.out
    clear HWD hwd
    refine held_take (i := 0) (v := ?_) 4 rfl (by kernel_rfl) (by kernel_rfl) (by kernel_rfl) (fun _ _ _ h => h) rfl (by assumption) (Or.inl ⟨by rfl, ?_⟩) ?_
    rotate_left
    · intro w hSw; go_simp; (try with_reducible rfl)
    simp only [List.set_cons_zero, List.set_cons_succ]
    refine held_take (i := 1) (v := ?_) 5 rfl (by kernel_rfl) (by kernel_rfl) (by kernel_rfl) (fun _ _ _ h => h) rfl (by assumption) (Or.inl ⟨by rfl, ?_⟩) ?_
    rotate_left
    · intro w hSw; obtain ⟨hc, hf⟩ := bcell hSw; go_simp; (try with_reducible rfl)
    simp only [List.set_cons_zero, List.set_cons_succ]
    refine held_take (i := 2) (v := ?_) 6 rfl (by kernel_rfl) (by kernel_rfl) (by kernel_rfl) (fun _ _ _ h => h) rfl (by assumption) (Or.inl ⟨by rfl, ?_⟩) ?_
    rotate_left
    · intro w hSw; go_simp; (try with_reducible rfl)
    simp only [List.set_cons_zero, List.set_cons_succ]
    refine held_take (i := 3) (v := ?_) 7 rfl (by kernel_rfl) (by kernel_rfl) (by kernel_rfl) (fun _ _ _ h => h) rfl (by assumption) (Or.inl ⟨by rfl, ?_⟩) ?_
    rotate_left
    · intro w hSw; obtain ⟨hc, hf⟩ := bcell hSw; go_simp; (try with_reducible rfl)
    simp only [List.set_cons_zero, List.set_cons_succ]
    refine held_take (i := 4) (v := ?_) 8 rfl (by kernel_rfl) (by kernel_rfl) (by kernel_rfl) (fun _ _ _ h => h) rfl (by assumption) (Or.inl ⟨by rfl, ?_⟩) ?_
    rotate_left
    · intro w hSw; go_simp; (try with_reducible rfl)
    simp only [List.set_cons_zero, List.set_cons_succ]
    refine held_take (i := 5) (v := ?_) 9 rfl (by kernel_rfl) (by kernel_rfl) (by kernel_rfl) (fun _ _ _ h => h) rfl (by assumption) (Or.inl ⟨by rfl, ?_⟩) ?_
    rotate_left
    · intro w hSw; go_simp; (try with_reducible rfl)
    simp only [List.set_cons_zero, List.set_cons_succ]
    refine held_take (i := 6) (v := ?_) 10 rfl (by kernel_rfl) (by kernel_rfl) (by kernel_rfl) (fun _ _ _ h => h) rfl (by assumption) (Or.inl ⟨by rfl, ?_⟩) ?_
    rotate_left
    · intro w hSw; obtain ⟨hc, hf⟩ := bcell hSw; go_simp; (try with_reducible rfl)
    simp only [List.set_cons_zero, List.set_cons_succ]
    refine held_take (i := 7) (v := ?_) 11 rfl (by kernel_rfl) (by kernel_rfl) (by kernel_rfl) (fun _ _ _ h => h) rfl (by assumption) (Or.inl ⟨by rfl, ?_⟩) ?_
    rotate_left
    · intro w hSw; go_simp; (try with_reducible rfl)
    simp only [List.set_cons_zero, List.set_cons_succ]
    refine held_take (i := 8) (v := ?_) 12 rfl (by kernel_rfl) (by kernel_rfl) (by kernel_rfl) (fun _ _ _ h => h) rfl (by assumption) (Or.inl ⟨by rfl, ?_⟩) ?_
    rotate_left
    · intro w hSw; go_simp; (try with_reducible rfl)
    simp only [List.set_cons_zero, List.set_cons_succ]
    refine held_take (i := 10) (v := ?_) 14 rfl (by kernel_rfl) (by kernel_rfl) (by kernel_rfl) (fun _ _ _ h => h) rfl (by assumption) (Or.inl ⟨by rfl, ?_⟩) ?_
    rotate_left
    · intro w hSw; go_simp; (try with_reducible rfl)
    simp only [List.set_cons_zero, List.set_cons_succ]
    refine held_take (i := 11) (v := ?_) 15 rfl (by kernel_rfl) (by kernel_rfl) (by kernel_rfl) (fun _ _ _ h => h) rfl (by assumption) (Or.inl ⟨by rfl, ?_⟩) ?_
    rotate_left
    · intro w hSw; obtain ⟨hc, hf⟩ := bcell hSw; go_simp; (try with_reducible rfl)
    simp only [List.set_cons_zero, List.set_cons_succ]
    refine held_take (i := 12) (v := ?_) 16 rfl (by kernel_rfl) (by kernel_rfl) (by kernel_rfl) (fun _ _ _ h => h) rfl (by assumption) (Or.inl ⟨by rfl, ?_⟩) ?_
    rotate_left
    · intro w hSw; go_simp; (try with_reducible rfl)
    simp only [List.set_cons_zero, List.set_cons_succ]
    refine held_take (i := 13) (v := ?_) 17 rfl (by kernel_rfl) (by kernel_rfl) (by kernel_rfl) (fun _ _ _ h => h) rfl (by assumption) (Or.inl ⟨by rfl, ?_⟩) ?_
    rotate_left
    · intro w hSw; go_simp; (try with_reducible rfl)
    simp only [List.set_cons_zero, List.set_cons_succ]
    refine held_take (i := 14) (v := ?_) 18 rfl (by kernel_rfl) (by kernel_rfl) (by kernel_rfl) (fun _ _ _ h => h) rfl (by assumption) (Or.inl ⟨by rfl, ?_⟩) ?_
    rotate_left
    · intro w hSw; obtain ⟨hc, hf⟩ := bcell hSw; go_simp; (try with_reducible rfl)
    simp only [List.set_cons_zero, List.set_cons_succ]
    refine held_take (i := 15) (v := ?_) 19 rfl (by kernel_rfl) (by kernel_rfl) (by kernel_rfl) (fun _ _ _ h => h) rfl (by assumption) (Or.inl ⟨by rfl, ?_⟩) ?_
    rotate_left
    · intro w hSw; go_simp; (try with_reducible rfl)
    simp only [List.set_cons_zero, List.set_cons_succ]
    refine held_take (i := 16) (v := ?_) 20 rfl (by kernel_rfl) (by kernel_rfl) (by kernel_rfl) (fun _ _ _ h => h) rfl (by assumption) (Or.inl ⟨by rfl, ?_⟩) ?_
    rotate_left
    · intro w hSw; go_simp; (try with_reducible rfl)
    simp only [List.set_cons_zero, List.set_cons_succ]
    refine held_take (i := 18) (v := ?_) 22 rfl (by kernel_rfl) (by kernel_rfl) (by kernel_rfl) (fun _ _ _ h => h) rfl (by assumption) (Or.inl ⟨by rfl, ?_⟩) ?_
    rotate_left
    · intro w hSw; go_simp; (try with_reducible rfl)
    simp only [List.set_cons_zero, List.set_cons_succ]
    refine held_take (i := 19) (v := ?_) 23 rfl (by kernel_rfl) (by kernel_rfl) (by kernel_rfl) (fun _ _ _ h => h) rfl (by assumption) (Or.inl ⟨by rfl, ?_⟩) ?_
    rotate_left
    · intro w hSw; obtain ⟨hc, hf⟩ := bcell hSw; go_simp; (try with_reducible rfl)
    simp only [List.set_cons_zero, List.set_cons_succ]
    refine held_take (i := 21) (v := ?_) 25 rfl (by kernel_rfl) (by kernel_rfl) (by kernel_rfl) (fun _ _ _ h => h) rfl (by assumption) (Or.inl ⟨by rfl, ?_⟩) ?_
    rotate_left
    · intro w hSw; go_simp; (try with_reducible rfl)
    simp only [List.set_cons_zero, List.set_cons_succ]
    refine held_take (i := 22) (v := ?_) 26 rfl (by kernel_rfl) (by kernel_rfl) (by kernel_rfl) (fun _ _ _ h => h) rfl (by assumption) (Or.inl ⟨by rfl, ?_⟩) ?_
    rotate_left
    · intro w hSw; obtain ⟨hc, hf⟩ := bcell hSw; go_simp; (try with_reducible rfl)
    simp only [List.set_cons_zero, List.set_cons_succ]
    refine held_take (i := 24) (v := ?_) 28 rfl (by kernel_rfl) (by kernel_rfl) (by kernel_rfl) (fun _ _ _ h => h) rfl (by assumption) (Or.inl ⟨by rfl, ?_⟩) ?_
    rotate_left
    · intro w hSw; go_simp; (try with_reducible rfl)
    simp only [List.set_cons_zero, List.set_cons_succ]
    refine held_take (i := 25) (v := ?_) 29 rfl (by kernel_rfl) (by kernel_rfl) (by kernel_rfl) (fun _ _ _ h => h) rfl (by assumption) (Or.inl ⟨by rfl, ?_⟩) ?_
    rotate_left
    · intro w hSw; obtain ⟨hc, hf⟩ := bcell hSw; go_simp; (try with_reducible rfl)
    simp only [List.set_cons_zero, List.set_cons_succ]
    refine held_take (i := 27) (v := ?_) 31 rfl (by kernel_rfl) (by kernel_rfl) (by kernel_rfl) (fun _ _ _ h => h) rfl (by assumption) (Or.inl ⟨by rfl, ?_⟩) ?_
    rotate_left
    · intro w hSw; go_simp; (try with_reducible rfl)
    simp only [List.set_cons_zero, List.set_cons_succ]
    refine held_take (i := 28) (v := ?_) 32 rfl (by kernel_rfl) (by kernel_rfl) (by kernel_rfl) (fun _ _ _ h => h) rfl (by assumption) (Or.inl ⟨by rfl, ?_⟩) ?_
    rotate_left
    · intro w hSw; obtain ⟨hc, hf⟩ := bcell hSw; go_simp; (try with_reducible rfl)
    simp only [List.set_cons_zero, List.set_cons_succ]
    refine held_take (i := 29) (v := ?_) 33 rfl (by kernel_rfl) (by kernel_rfl) (by kernel_rfl) (fun _ _ _ h => h) rfl (by assumption) (Or.inl ⟨by rfl, ?_⟩) ?_
    rotate_left
    · intro w hSw; go_simp; (try with_reducible rfl)
    simp only [List.set_cons_zero, List.set_cons_succ]
    refine held_take (i := 30) (v := ?_) 34 rfl (by kernel_rfl) (by kernel_rfl) (by kernel_rfl) (fun _ _ _ h => h) rfl (by assumption) (Or.inl ⟨by rfl, ?_⟩) ?_
    rotate_left
    · intro w hSw; go_simp; (try with_reducible rfl)
    simp only [List.set_cons_zero, List.set_cons_succ]
    refine held_take (i := 31) (v := ?_) 35 rfl (by kernel_rfl) (by kernel_rfl) (by kernel_rfl) (fun _ _ _ h => h) rfl (by assumption) (Or.inl ⟨by rfl, ?_⟩) ?_
    rotate_left
    · intro w hSw; obtain ⟨hc, hf⟩ := bcell hSw; go_simp; (try with_reducible rfl)
    simp only [List.set_cons_zero, List.set_cons_succ]
    refine held_take (i := 33) (v := ?_) 37 rfl (by kernel_rfl) (by kernel_rfl) (by kernel_rfl) (fun _ _ _ h => h) rfl (by assumption) (Or.inl ⟨by rfl, ?_⟩) ?_
    rotate_left
    · intro w hSw; go_simp; (try with_reducible rfl)
    simp only [List.set_cons_zero, List.set_cons_succ]
    refine held_take (i := 34) (v := ?_) 38 rfl (by kernel_rfl) (by kernel_rfl) (by kernel_rfl) (fun _ _ _ h => h) rfl (by assumption) (Or.inl ⟨by rfl, ?_⟩) ?_
    rotate_left
    · intro w hSw; obtain ⟨hc, hf⟩ := bcell hSw; go_simp; (try with_reducible rfl)
    simp only [List.set_cons_zero, List.set_cons_succ]
    refine wpAnyH_ready (rs := [9, 37]) (by kernel_rfl) (by simp) ?_
    refine (AllReadyH.cons rfl (fun K hK => ?_) (AllReadyH.cons rfl (fun K hK => ?_) AllReadyH.nil))
    · go_simp
      refine (name_any _ _).mono ?_
      rintro e w1x ⟨⟨p1, rfl, hp1⟩, hb⟩
      have hbt := HB.trans hHeld hb
      go_wp2_with fail
      refine hK.out _ _ hbt (fun _ => ?_)
      clear hK hHeld K
      have hHeld := hbt
      clear hb hbt
      refine wpAnyH_ready (rs := [17, 37]) (by kernel_rfl) (by simp) ?_
      refine (AllReadyH.cons rfl (fun K hK => ?_) (AllReadyH.cons rfl (fun K hK => ?_) AllReadyH.nil))
      · go_simp
        refine (name_any _ _).mono ?_
        rintro e w2x ⟨⟨p2, rfl, hp2⟩, hb⟩
        have hbt := HB.trans hHeld hb
        go_wp2_with fail
        refine hK.out _ _ hbt (fun _ => ?_)
        clear hK hHeld K
        have hHeld := hbt
        clear hb hbt
        refine wpAnyH_ready (rs := [20, 37]) (by kernel_rfl) (by simp) ?_
        refine (AllReadyH.cons rfl (fun K hK => ?_) (AllReadyH.cons rfl (fun K hK => ?_) AllReadyH.nil))
        · go_simp
          refine (within_b fd 0 3 _ (by decide) (by decide) (by decide)).mono ?_
          rintro e w3x ⟨rfl, hb⟩
          have hbt := HB.trans hHeld hb
          go_wp2_with fail
          refine hK.out _ _ hbt (fun _ => ?_)
          clear hK hHeld K
          have hHeld := hbt
          clear hb hbt
          refine wpAnyH_ready (rs := [23, 37]) (by kernel_rfl) (by simp) ?_
          refine (AllReadyH.cons rfl (fun K hK => ?_) (AllReadyH.cons rfl (fun K hK => ?_) AllReadyH.nil))
          · go_simp
            refine (within_b at_ 0 50 _ (by decide) (by decide) (by decide)).mono ?_
            rintro e w4x ⟨rfl, hb⟩
            have hbt := HB.trans hHeld hb
            go_wp2_with fail
            refine hK.out _ _ hbt (fun _ => ?_)
            clear hK hHeld K
            have hHeld := hbt
            clear hb hbt
            refine wpAnyH_ready (rs := [26, 37]) (by kernel_rfl) (by simp) ?_
            refine (AllReadyH.cons rfl (fun K hK => ?_) (AllReadyH.cons rfl (fun K hK => ?_) AllReadyH.nil))
            · go_simp
              refine (within_b n 0 60 _ (by decide) (by decide) (by decide)).mono ?_
              rintro e w5x ⟨rfl, hb⟩
              have hbt := HB.trans hHeld hb
              go_wp2_with fail
              refine hK.out _ _ hbt (fun _ => ?_)
              clear hK hHeld K
              have hHeld := hbt
              clear hb hbt
              refine wpAnyH_ready (rs := [32, 37]) (by kernel_rfl) (by simp) ?_
              refine (AllReadyH.cons rfl (fun K hK => ?_) (AllReadyH.cons rfl (fun K hK => ?_) AllReadyH.nil))
              · go_simp
                refine (within_b sn 0 4 _ (by decide) (by decide) (by decide)).mono ?_
                rintro e w6x ⟨rfl, hb⟩
                have hbt := HB.trans hHeld hb
                go_wp2_with fail
                refine hK.out _ _ hbt (fun _ => ?_)
                clear hK hHeld K
                have hHeld := hbt
                clear hb hbt
                refine wpAnyH_ready (rs := [35, 37]) (by kernel_rfl) (by simp) ?_
                refine (AllReadyH.cons rfl (fun K hK => ?_) (AllReadyH.cons rfl (fun K hK => ?_) AllReadyH.nil))
                · go_simp
                  refine (cutb_any 40 da dl dc _ hcap (by decide)).mono ?_
                  rintro e w7x ⟨rfl, hb⟩
                  have hbt := HB.trans hHeld hb
                  go_wp2_with fail
                  refine hK.out _ _ hbt (fun _ => ?_)
                  clear hK hHeld K
                  have hHeld := hbt
                  clear hb hbt
                  refine held_take (i := 36) (v := ?_) 40 rfl (by kernel_rfl) (by kernel_rfl) (by kernel_rfl) (fun _ _ _ h => h) rfl (by assumption) (Or.inl ⟨by rfl, ?_⟩) ?_
                  rotate_left
                  · intro w hSw; go_simp; (try with_reducible rfl)
                  simp only [List.set_cons_zero, List.set_cons_succ]
                  refine wpAnyH_ready (rs := [37]) (by kernel_rfl) (by simp) ?_
                  refine (AllReadyH.cons rfl (fun K hK => ?_) AllReadyH.nil)
                  go_simp
                  have hb : HB w7x (w7x.alloc (.cells #[.int .i64 0, .string ⟨#[]⟩, .string ⟨#[]⟩, .int .i64 0, .int .i64 0, .int .i64 0, .int .u64 0, .int .i64 0, .slice none 0 0] 25)) := (HB.refl _).alloc _
                  have hbt := HB.trans hHeld hb
                  have hxn : AtB (w7x.alloc (.cells #[.int .i64 0, .string ⟨#[]⟩, .string ⟨#[]⟩, .int .i64 0, .int .i64 0, .int .i64 0, .int .u64 0, .int .i64 0, .slice none 0 0] 25)) w7x.heap.size (.cells #[.int .i64 0, .string ⟨#[]⟩, .string ⟨#[]⟩, .int .i64 0, .int .i64 0, .int .i64 0, .int .u64 0, .int .i64 0, .slice none 0 0] 25) := heap_alloc_new _ _
                  obtain ⟨X, hXe⟩ : ∃ X, X = w7x.heap.size := ⟨_, rfl⟩
                  have hxg : wd.heap.size ≤ X := by rw [hXe]; exact Below.size hHeld
                  rw [← hXe] at hxn ⊢
                  clear hXe
                  generalize w7x.alloc (.cells #[.int .i64 0, .string ⟨#[]⟩, .string ⟨#[]⟩, .int .i64 0, .int .i64 0, .int .i64 0, .int .u64 0, .int .i64 0, .slice none 0 0] 25) = w8x at *
                  refine hK.out _ _ hbt (fun _ => ?_)
                  clear hK hHeld K
                  have hHeld := hbt
                  clear hb hbt
                  refine wpAnyH_ready (rs := [38]) (by kernel_rfl) (by simp) ?_
                  refine (AllReadyH.cons rfl (fun K hK => ?_) AllReadyH.nil)
                  have F := frozen_at hxn
                  have z0 := F 0; have z1 := F 1; have z2 := F 2; have z3 := F 3; have z4 := F 4; have z5 := F 5; have z6 := F 6; have z7 := F 7; have z8 := F 8
                  have C := cells_at hxn
                  have y0 := C 0; have y1 := C 1; have y2 := C 2; have y3 := C 3; have y4 := C 4; have y5 := C 5; have y6 := C 6; have y7 := C 7; have y8 := C 8
                  simp only [List.getElem?_toArray, List.getElem?_cons_zero, List.getElem?_cons_succ] at y0 y1 y2 y3 y4 y5 y6 y7 y8
                  clear F C
                  go_simp
                  refine hK.out _ _ (below9 hHeld hxg _ _ _ _ _ _ _ _ _) (fun hH2 => ?_)
                  clear hK K z0 z1 z2 z3 z4 z5 z6 z7 z8 y0 y1 y2 y3 y4 y5 y6 y7 y8
                  refine wpAnyH_done (by kernel_rfl) ?_ _
                  go_wp2_with fail
                  go_meet
                  exact ⟨X, p1, p2, rfl, hp1, hp2, store9 hxn, Nat.lt_of_lt_of_le hltR hxg, hE.step hH2, hO.below hH2 hlt, hH2.block R hltR |>.trans hR⟩
                · go_simp
                  have hb : HB w6x (w6x.alloc (.cells #[.int .i64 0, .string ⟨#[]⟩, .string ⟨#[]⟩, .int .i64 0, .int .i64 0, .int .i64 0, .int .u64 0, .int .i64 0, .slice none 0 0] 25)) := (HB.refl _).alloc _
                  have hbt := HB.trans hHeld hb
                  have hxn : AtB (w6x.alloc (.cells #[.int .i64 0, .string ⟨#[]⟩, .string ⟨#[]⟩, .int .i64 0, .int .i64 0, .int .i64 0, .int .u64 0, .int .i64 0, .slice none 0 0] 25)) w6x.heap.size (.cells #[.int .i64 0, .string ⟨#[]⟩, .string ⟨#[]⟩, .int .i64 0, .int .i64 0, .int .i64 0, .int .u64 0, .int .i64 0, .slice none 0 0] 25) := heap_alloc_new _ _
                  obtain ⟨X, hXe⟩ : ∃ X, X = w6x.heap.size := ⟨_, rfl⟩
                  have hxg : wd.heap.size ≤ X := by rw [hXe]; exact Below.size hHeld
                  rw [← hXe] at hxn ⊢
                  clear hXe
                  generalize w6x.alloc (.cells #[.int .i64 0, .string ⟨#[]⟩, .string ⟨#[]⟩, .int .i64 0, .int .i64 0, .int .i64 0, .int .u64 0, .int .i64 0, .slice none 0 0] 25) = w10x at *
                  refine hK.out _ _ hbt (fun _ => ?_)
                  clear hK hHeld K
                  have hHeld := hbt
                  clear hb hbt
                  refine wpAnyH_ready (rs := [35]) (by kernel_rfl) (by simp) ?_
                  refine (AllReadyH.cons rfl (fun K hK => ?_) AllReadyH.nil)
                  go_simp
                  refine (cutb_any 40 da dl dc _ hcap (by decide)).mono ?_
                  rintro e w11x ⟨rfl, hb⟩
                  have hbt := HB.trans hHeld hb
                  have hxn := hxn.below hb
                  go_wp2_with fail
                  refine hK.out _ _ hbt (fun _ => ?_)
                  clear hK hHeld K
                  have hHeld := hbt
                  clear hb hbt
                  refine held_take (i := 36) (v := ?_) 40 rfl (by kernel_rfl) (by kernel_rfl) (by kernel_rfl) (fun _ _ _ h => h) rfl (by assumption) (Or.inl ⟨by rfl, ?_⟩) ?_
                  rotate_left
                  · intro w hSw; go_simp; (try with_reducible rfl)
                  simp only [List.set_cons_zero, List.set_cons_succ]
                  refine wpAnyH_ready (rs := [38]) (by kernel_rfl) (by simp) ?_
                  refine (AllReadyH.cons rfl (fun K hK => ?_) AllReadyH.nil)
                  have F := frozen_at hxn
                  have z0 := F 0; have z1 := F 1; have z2 := F 2; have z3 := F 3; have z4 := F 4; have z5 := F 5; have z6 := F 6; have z7 := F 7; have z8 := F 8
                  have C := cells_at hxn
                  have y0 := C 0; have y1 := C 1; have y2 := C 2; have y3 := C 3; have y4 := C 4; have y5 := C 5; have y6 := C 6; have y7 := C 7; have y8 := C 8
                  simp only [List.getElem?_toArray, List.getElem?_cons_zero, List.getElem?_cons_succ] at y0 y1 y2 y3 y4 y5 y6 y7 y8
                  clear F C
                  go_simp
                  refine hK.out _ _ (below9 hHeld hxg _ _ _ _ _ _ _ _ _) (fun hH2 => ?_)
                  clear hK K z0 z1 z2 z3 z4 z5 z6 z7 z8 y0 y1 y2 y3 y4 y5 y6 y7 y8
                  refine wpAnyH_done (by kernel_rfl) ?_ _
                  go_wp2_with fail
                  go_meet
                  exact ⟨X, p1, p2, rfl, hp1, hp2, store9 hxn, Nat.lt_of_lt_of_le hltR hxg, hE.step hH2, hO.below hH2 hlt, hH2.block R hltR |>.trans hR⟩
              · go_simp
                have hb : HB w5x (w5x.alloc (.cells #[.int .i64 0, .string ⟨#[]⟩, .string ⟨#[]⟩, .int .i64 0, .int .i64 0, .int .i64 0, .int .u64 0, .int .i64 0, .slice none 0 0] 25)) := (HB.refl _).alloc _
                have hbt := HB.trans hHeld hb
                have hxn : AtB (w5x.alloc (.cells #[.int .i64 0, .string ⟨#[]⟩, .string ⟨#[]⟩, .int .i64 0, .int .i64 0, .int .i64 0, .int .u64 0, .int .i64 0, .slice none 0 0] 25)) w5x.heap.size (.cells #[.int .i64 0, .string ⟨#[]⟩, .string ⟨#[]⟩, .int .i64 0, .int .i64 0, .int .i64 0, .int .u64 0, .int .i64 0, .slice none 0 0] 25) := heap_alloc_new _ _
                obtain ⟨X, hXe⟩ : ∃ X, X = w5x.heap.size := ⟨_, rfl⟩
                have hxg : wd.heap.size ≤ X := by rw [hXe]; exact Below.size hHeld
                rw [← hXe] at hxn ⊢
                clear hXe
                generalize w5x.alloc (.cells #[.int .i64 0, .string ⟨#[]⟩, .string ⟨#[]⟩, .int .i64 0, .int .i64 0, .int .i64 0, .int .u64 0, .int .i64 0, .slice none 0 0] 25) = w13x at *
                refine hK.out _ _ hbt (fun _ => ?_)
                clear hK hHeld K
                have hHeld := hbt
                clear hb hbt
                refine wpAnyH_ready (rs := [32]) (by kernel_rfl) (by simp) ?_
                refine (AllReadyH.cons rfl (fun K hK => ?_) AllReadyH.nil)
                go_simp
                refine (within_b sn 0 4 _ (by decide) (by decide) (by decide)).mono ?_
                rintro e w14x ⟨rfl, hb⟩
                have hbt := HB.trans hHeld hb
                have hxn := hxn.below hb
                go_wp2_with fail
                refine hK.out _ _ hbt (fun _ => ?_)
                clear hK hHeld K
                have hHeld := hbt
                clear hb hbt
                refine wpAnyH_ready (rs := [35]) (by kernel_rfl) (by simp) ?_
                refine (AllReadyH.cons rfl (fun K hK => ?_) AllReadyH.nil)
                go_simp
                refine (cutb_any 40 da dl dc _ hcap (by decide)).mono ?_
                rintro e w15x ⟨rfl, hb⟩
                have hbt := HB.trans hHeld hb
                have hxn := hxn.below hb
                go_wp2_with fail
                refine hK.out _ _ hbt (fun _ => ?_)
                clear hK hHeld K
                have hHeld := hbt
                clear hb hbt
                refine held_take (i := 36) (v := ?_) 40 rfl (by kernel_rfl) (by kernel_rfl) (by kernel_rfl) (fun _ _ _ h => h) rfl (by assumption) (Or.inl ⟨by rfl, ?_⟩) ?_
                rotate_left
                · intro w hSw; go_simp; (try with_reducible rfl)
                simp only [List.set_cons_zero, List.set_cons_succ]
                refine wpAnyH_ready (rs := [38]) (by kernel_rfl) (by simp) ?_
                refine (AllReadyH.cons rfl (fun K hK => ?_) AllReadyH.nil)
                have F := frozen_at hxn
                have z0 := F 0; have z1 := F 1; have z2 := F 2; have z3 := F 3; have z4 := F 4; have z5 := F 5; have z6 := F 6; have z7 := F 7; have z8 := F 8
                have C := cells_at hxn
                have y0 := C 0; have y1 := C 1; have y2 := C 2; have y3 := C 3; have y4 := C 4; have y5 := C 5; have y6 := C 6; have y7 := C 7; have y8 := C 8
                simp only [List.getElem?_toArray, List.getElem?_cons_zero, List.getElem?_cons_succ] at y0 y1 y2 y3 y4 y5 y6 y7 y8
                clear F C
                go_simp
                refine hK.out _ _ (below9 hHeld hxg _ _ _ _ _ _ _ _ _) (fun hH2 => ?_)
                clear hK K z0 z1 z2 z3 z4 z5 z6 z7 z8 y0 y1 y2 y3 y4 y5 y6 y7 y8
                refine wpAnyH_done (by kernel_rfl) ?_ _
                go_wp2_with fail
                go_meet
                exact ⟨X, p1, p2, rfl, hp1, hp2, store9 hxn, Nat.lt_of_lt_of_le hltR hxg, hE.step hH2, hO.below hH2 hlt, hH2.block R hltR |>.trans hR⟩
            · go_simp
              have hb : HB w4x (w4x.alloc (.cells #[.int .i64 0, .string ⟨#[]⟩, .string ⟨#[]⟩, .int .i64 0, .int .i64 0, .int .i64 0, .int .u64 0, .int .i64 0, .slice none 0 0] 25)) := (HB.refl _).alloc _
              have hbt := HB.trans hHeld hb
              have hxn : AtB (w4x.alloc (.cells #[.int .i64 0, .string ⟨#[]⟩, .string ⟨#[]⟩, .int .i64 0, .int .i64 0, .int .i64 0, .int .u64 0, .int .i64 0, .slice none 0 0] 25)) w4x.heap.size (.cells #[.int .i64 0, .string ⟨#[]⟩, .string ⟨#[]⟩, .int .i64 0, .int .i64 0, .int .i64 0, .int .u64 0, .int .i64 0, .slice none 0 0] 25) := heap_alloc_new _ _
              obtain ⟨X, hXe⟩ : ∃ X, X = w4x.heap.size := ⟨_, rfl⟩
              have hxg : wd.heap.size ≤ X := by rw [hXe]; exact Below.size hHeld
              rw [← hXe] at hxn ⊢
              clear hXe
              generalize w4x.alloc (.cells #[.int .i64 0, .string ⟨#[]⟩, .string ⟨#[]⟩, .int .i64 0, .int .i64 0, .int .i64 0, .int .u64 0, .int .i64 0, .slice none 0 0] 25) = w17x at *
              refine hK.out _ _ hbt (fun _ => ?_)
              clear hK hHeld K
              have hHeld := hbt
              clear hb hbt
              refine wpAnyH_ready (rs := [26]) (by kernel_rfl) (by simp) ?_
              refine (AllReadyH.cons rfl (fun K hK => ?_) AllReadyH.nil)
              go_simp
              refine (within_b n 0 60 _ (by decide) (by decide) (by decide)).mono ?_
              rintro e w18x ⟨rfl, hb⟩
              have hbt := HB.trans hHeld hb
              have hxn := hxn.below hb
              go_wp2_with fail
              refine hK.out _ _ hbt (fun _ => ?_)
              clear hK hHeld K
              have hHeld := hbt
              clear hb hbt
              refine wpAnyH_ready (rs := [32]) (by kernel_rfl) (by simp) ?_
              refine (AllReadyH.cons rfl (fun K hK => ?_) AllReadyH.nil)
              go_simp
              refine (within_b sn 0 4 _ (by decide) (by decide) (by decide)).mono ?_
              rintro e w19x ⟨rfl, hb⟩
              have hbt := HB.trans hHeld hb
              have hxn := hxn.below hb
              go_wp2_with fail
              refine hK.out _ _ hbt (fun _ => ?_)
              clear hK hHeld K
              have hHeld := hbt
              clear hb hbt
              refine wpAnyH_ready (rs := [35]) (by kernel_rfl) (by simp) ?_
              refine (AllReadyH.cons rfl (fun K hK => ?_) AllReadyH.nil)
              go_simp
              refine (cutb_any 40 da dl dc _ hcap (by decide)).mono ?_
              rintro e w20x ⟨rfl, hb⟩
              have hbt := HB.trans hHeld hb
              have hxn := hxn.below hb
              go_wp2_with fail
              refine hK.out _ _ hbt (fun _ => ?_)
              clear hK hHeld K
              have hHeld := hbt
              clear hb hbt
              refine held_take (i := 36) (v := ?_) 40 rfl (by kernel_rfl) (by kernel_rfl) (by kernel_rfl) (fun _ _ _ h => h) rfl (by assumption) (Or.inl ⟨by rfl, ?_⟩) ?_
              rotate_left
              · intro w hSw; go_simp; (try with_reducible rfl)
              simp only [List.set_cons_zero, List.set_cons_succ]
              refine wpAnyH_ready (rs := [38]) (by kernel_rfl) (by simp) ?_
              refine (AllReadyH.cons rfl (fun K hK => ?_) AllReadyH.nil)
              have F := frozen_at hxn
              have z0 := F 0; have z1 := F 1; have z2 := F 2; have z3 := F 3; have z4 := F 4; have z5 := F 5; have z6 := F 6; have z7 := F 7; have z8 := F 8
              have C := cells_at hxn
              have y0 := C 0; have y1 := C 1; have y2 := C 2; have y3 := C 3; have y4 := C 4; have y5 := C 5; have y6 := C 6; have y7 := C 7; have y8 := C 8
              simp only [List.getElem?_toArray, List.getElem?_cons_zero, List.getElem?_cons_succ] at y0 y1 y2 y3 y4 y5 y6 y7 y8
              clear F C
              go_simp
              refine hK.out _ _ (below9 hHeld hxg _ _ _ _ _ _ _ _ _) (fun hH2 => ?_)
              clear hK K z0 z1 z2 z3 z4 z5 z6 z7 z8 y0 y1 y2 y3 y4 y5 y6 y7 y8
              refine wpAnyH_done (by kernel_rfl) ?_ _
              go_wp2_with fail
              go_meet
              exact ⟨X, p1, p2, rfl, hp1, hp2, store9 hxn, Nat.lt_of_lt_of_le hltR hxg, hE.step hH2, hO.below hH2 hlt, hH2.block R hltR |>.trans hR⟩
          · go_simp
            have hb : HB w3x (w3x.alloc (.cells #[.int .i64 0, .string ⟨#[]⟩, .string ⟨#[]⟩, .int .i64 0, .int .i64 0, .int .i64 0, .int .u64 0, .int .i64 0, .slice none 0 0] 25)) := (HB.refl _).alloc _
            have hbt := HB.trans hHeld hb
            have hxn : AtB (w3x.alloc (.cells #[.int .i64 0, .string ⟨#[]⟩, .string ⟨#[]⟩, .int .i64 0, .int .i64 0, .int .i64 0, .int .u64 0, .int .i64 0, .slice none 0 0] 25)) w3x.heap.size (.cells #[.int .i64 0, .string ⟨#[]⟩, .string ⟨#[]⟩, .int .i64 0, .int .i64 0, .int .i64 0, .int .u64 0, .int .i64 0, .slice none 0 0] 25) := heap_alloc_new _ _
            obtain ⟨X, hXe⟩ : ∃ X, X = w3x.heap.size := ⟨_, rfl⟩
            have hxg : wd.heap.size ≤ X := by rw [hXe]; exact Below.size hHeld
            rw [← hXe] at hxn ⊢
            clear hXe
            generalize w3x.alloc (.cells #[.int .i64 0, .string ⟨#[]⟩, .string ⟨#[]⟩, .int .i64 0, .int .i64 0, .int .i64 0, .int .u64 0, .int .i64 0, .slice none 0 0] 25) = w22x at *
            refine hK.out _ _ hbt (fun _ => ?_)
            clear hK hHeld K
            have hHeld := hbt
            clear hb hbt
            refine wpAnyH_ready (rs := [23]) (by kernel_rfl) (by simp) ?_
            refine (AllReadyH.cons rfl (fun K hK => ?_) AllReadyH.nil)
            go_simp
            refine (within_b at_ 0 50 _ (by decide) (by decide) (by decide)).mono ?_
            rintro e w23x ⟨rfl, hb⟩
            have hbt := HB.trans hHeld hb
            have hxn := hxn.below hb
            go_wp2_with fail
            refine hK.out _ _ hbt (fun _ => ?_)
            clear hK hHeld K
            have hHeld := hbt
            clear hb hbt
            refine wpAnyH_ready (rs := [26]) (by kernel_rfl) (by simp) ?_
            refine (AllReadyH.cons rfl (fun K hK => ?_) AllReadyH.nil)
            go_simp
            refine (within_b n 0 60 _ (by decide) (by decide) (by decide)).mono ?_
            rintro e w24x ⟨rfl, hb⟩
            have hbt := HB.trans hHeld hb
            have hxn := hxn.below hb
            go_wp2_with fail
            refine hK.out _ _ hbt (fun _ => ?_)
            clear hK hHeld K
            have hHeld := hbt
            clear hb hbt
            refine wpAnyH_ready (rs := [32]) (by kernel_rfl) (by simp) ?_
            refine (AllReadyH.cons rfl (fun K hK => ?_) AllReadyH.nil)
            go_simp
            refine (within_b sn 0 4 _ (by decide) (by decide) (by decide)).mono ?_
            rintro e w25x ⟨rfl, hb⟩
            have hbt := HB.trans hHeld hb
            have hxn := hxn.below hb
            go_wp2_with fail
            refine hK.out _ _ hbt (fun _ => ?_)
            clear hK hHeld K
            have hHeld := hbt
            clear hb hbt
            refine wpAnyH_ready (rs := [35]) (by kernel_rfl) (by simp) ?_
            refine (AllReadyH.cons rfl (fun K hK => ?_) AllReadyH.nil)
            go_simp
            refine (cutb_any 40 da dl dc _ hcap (by decide)).mono ?_
            rintro e w26x ⟨rfl, hb⟩
            have hbt := HB.trans hHeld hb
            have hxn := hxn.below hb
            go_wp2_with fail
            refine hK.out _ _ hbt (fun _ => ?_)
            clear hK hHeld K
            have hHeld := hbt
            clear hb hbt
            refine held_take (i := 36) (v := ?_) 40 rfl (by kernel_rfl) (by kernel_rfl) (by kernel_rfl) (fun _ _ _ h => h) rfl (by assumption) (Or.inl ⟨by rfl, ?_⟩) ?_
            rotate_left
            · intro w hSw; go_simp; (try with_reducible rfl)
            simp only [List.set_cons_zero, List.set_cons_succ]
            refine wpAnyH_ready (rs := [38]) (by kernel_rfl) (by simp) ?_
            refine (AllReadyH.cons rfl (fun K hK => ?_) AllReadyH.nil)
            have F := frozen_at hxn
            have z0 := F 0; have z1 := F 1; have z2 := F 2; have z3 := F 3; have z4 := F 4; have z5 := F 5; have z6 := F 6; have z7 := F 7; have z8 := F 8
            have C := cells_at hxn
            have y0 := C 0; have y1 := C 1; have y2 := C 2; have y3 := C 3; have y4 := C 4; have y5 := C 5; have y6 := C 6; have y7 := C 7; have y8 := C 8
            simp only [List.getElem?_toArray, List.getElem?_cons_zero, List.getElem?_cons_succ] at y0 y1 y2 y3 y4 y5 y6 y7 y8
            clear F C
            go_simp
            refine hK.out _ _ (below9 hHeld hxg _ _ _ _ _ _ _ _ _) (fun hH2 => ?_)
            clear hK K z0 z1 z2 z3 z4 z5 z6 z7 z8 y0 y1 y2 y3 y4 y5 y6 y7 y8
            refine wpAnyH_done (by kernel_rfl) ?_ _
            go_wp2_with fail
            go_meet
            exact ⟨X, p1, p2, rfl, hp1, hp2, store9 hxn, Nat.lt_of_lt_of_le hltR hxg, hE.step hH2, hO.below hH2 hlt, hH2.block R hltR |>.trans hR⟩
        · go_simp
          have hb : HB w2x (w2x.alloc (.cells #[.int .i64 0, .string ⟨#[]⟩, .string ⟨#[]⟩, .int .i64 0, .int .i64 0, .int .i64 0, .int .u64 0, .int .i64 0, .slice none 0 0] 25)) := (HB.refl _).alloc _
          have hbt := HB.trans hHeld hb
          have hxn : AtB (w2x.alloc (.cells #[.int .i64 0, .string ⟨#[]⟩, .string ⟨#[]⟩, .int .i64 0, .int .i64 0, .int .i64 0, .int .u64 0, .int .i64 0, .slice none 0 0] 25)) w2x.heap.size (.cells #[.int .i64 0, .string ⟨#[]⟩, .string ⟨#[]⟩, .int .i64 0, .int .i64 0, .int .i64 0, .int .u64 0, .int .i64 0, .slice none 0 0] 25) := heap_alloc_new _ _
          obtain ⟨X, hXe⟩ : ∃ X, X = w2x.heap.size := ⟨_, rfl⟩
          have hxg : wd.heap.size ≤ X := by rw [hXe]; exact Below.size hHeld
          rw [← hXe] at hxn ⊢
          clear hXe
          generalize w2x.alloc (.cells #[.int .i64 0, .string ⟨#[]⟩, .string ⟨#[]⟩, .int .i64 0, .int .i64 0, .int .i64 0, .int .u64 0, .int .i64 0, .slice none 0 0] 25) = w28x at *
          refine hK.out _ _ hbt (fun _ => ?_)
          clear hK hHeld K
          have hHeld := hbt
          clear hb hbt
          refine wpAnyH_ready (rs := [20]) (by kernel_rfl) (by simp) ?_
          refine (AllReadyH.cons rfl (fun K hK => ?_) AllReadyH.nil)
          go_simp
          refine (within_b fd 0 3 _ (by decide) (by decide) (by decide)).mono ?_
          rintro e w29x ⟨rfl, hb⟩
          have hbt := HB.trans hHeld hb
          have hxn := hxn.below hb
          go_wp2_with fail
          refine hK.out _ _ hbt (fun _ => ?_)
          clear hK hHeld K
          have hHeld := hbt
          clear hb hbt
          refine wpAnyH_ready (rs := [23]) (by kernel_rfl) (by simp) ?_
          refine (AllReadyH.cons rfl (fun K hK => ?_) AllReadyH.nil)
          go_simp
          refine (within_b at_ 0 50 _ (by decide) (by decide) (by decide)).mono ?_
          rintro e w30x ⟨rfl, hb⟩
          have hbt := HB.trans hHeld hb
          have hxn := hxn.below hb
          go_wp2_with fail
          refine hK.out _ _ hbt (fun _ => ?_)
          clear hK hHeld K
          have hHeld := hbt
          clear hb hbt
          refine wpAnyH_ready (rs := [26]) (by kernel_rfl) (by simp) ?_
          refine (AllReadyH.cons rfl (fun K hK => ?_) AllReadyH.nil)
          go_simp
          refine (within_b n 0 60 _ (by decide) (by decide) (by decide)).mono ?_
          rintro e w31x ⟨rfl, hb⟩
          have hbt := HB.trans hHeld hb
          have hxn := hxn.below hb
          go_wp2_with fail
          refine hK.out _ _ hbt (fun _ => ?_)
          clear hK hHeld K
          have hHeld := hbt
          clear hb hbt
          refine wpAnyH_ready (rs := [32]) (by kernel_rfl) (by simp) ?_
          refine (AllReadyH.cons rfl (fun K hK => ?_) AllReadyH.nil)
          go_simp
          refine (within_b sn 0 4 _ (by decide) (by decide) (by decide)).mono ?_
          rintro e w32x ⟨rfl, hb⟩
          have hbt := HB.trans hHeld hb
          have hxn := hxn.below hb
          go_wp2_with fail
          refine hK.out _ _ hbt (fun _ => ?_)
          clear hK hHeld K
          have hHeld := hbt
          clear hb hbt
          refine wpAnyH_ready (rs := [35]) (by kernel_rfl) (by simp) ?_
          refine (AllReadyH.cons rfl (fun K hK => ?_) AllReadyH.nil)
          go_simp
          refine (cutb_any 40 da dl dc _ hcap (by decide)).mono ?_
          rintro e w33x ⟨rfl, hb⟩
          have hbt := HB.trans hHeld hb
          have hxn := hxn.below hb
          go_wp2_with fail
          refine hK.out _ _ hbt (fun _ => ?_)
          clear hK hHeld K
          have hHeld := hbt
          clear hb hbt
          refine held_take (i := 36) (v := ?_) 40 rfl (by kernel_rfl) (by kernel_rfl) (by kernel_rfl) (fun _ _ _ h => h) rfl (by assumption) (Or.inl ⟨by rfl, ?_⟩) ?_
          rotate_left
          · intro w hSw; go_simp; (try with_reducible rfl)
          simp only [List.set_cons_zero, List.set_cons_succ]
          refine wpAnyH_ready (rs := [38]) (by kernel_rfl) (by simp) ?_
          refine (AllReadyH.cons rfl (fun K hK => ?_) AllReadyH.nil)
          have F := frozen_at hxn
          have z0 := F 0; have z1 := F 1; have z2 := F 2; have z3 := F 3; have z4 := F 4; have z5 := F 5; have z6 := F 6; have z7 := F 7; have z8 := F 8
          have C := cells_at hxn
          have y0 := C 0; have y1 := C 1; have y2 := C 2; have y3 := C 3; have y4 := C 4; have y5 := C 5; have y6 := C 6; have y7 := C 7; have y8 := C 8
          simp only [List.getElem?_toArray, List.getElem?_cons_zero, List.getElem?_cons_succ] at y0 y1 y2 y3 y4 y5 y6 y7 y8
          clear F C
          go_simp
          refine hK.out _ _ (below9 hHeld hxg _ _ _ _ _ _ _ _ _) (fun hH2 => ?_)
          clear hK K z0 z1 z2 z3 z4 z5 z6 z7 z8 y0 y1 y2 y3 y4 y5 y6 y7 y8
          refine wpAnyH_done (by kernel_rfl) ?_ _
          go_wp2_with fail
          go_meet
          exact ⟨X, p1, p2, rfl, hp1, hp2, store9 hxn, Nat.lt_of_lt_of_le hltR hxg, hE.step hH2, hO.below hH2 hlt, hH2.block R hltR |>.trans hR⟩
      · go_simp
        have hb : HB w1x (w1x.alloc (.cells #[.int .i64 0, .string ⟨#[]⟩, .string ⟨#[]⟩, .int .i64 0, .int .i64 0, .int .i64 0, .int .u64 0, .int .i64 0, .slice none 0 0] 25)) := (HB.refl _).alloc _
        have hbt := HB.trans hHeld hb
        have hxn : AtB (w1x.alloc (.cells #[.int .i64 0, .string ⟨#[]⟩, .string ⟨#[]⟩, .int .i64 0, .int .i64 0, .int .i64 0, .int .u64 0, .int .i64 0, .slice none 0 0] 25)) w1x.heap.size (.cells #[.int .i64 0, .string ⟨#[]⟩, .string ⟨#[]⟩, .int .i64 0, .int .i64 0, .int .i64 0, .int .u64 0, .int .i64 0, .slice none 0 0] 25) := heap_alloc_new _ _
        obtain ⟨X, hXe⟩ : ∃ X, X = w1x.heap.size := ⟨_, rfl⟩
        have hxg : wd.heap.size ≤ X := by rw [hXe]; exact Below.size hHeld
        rw [← hXe] at hxn ⊢
        clear hXe
        generalize w1x.alloc (.cells #[.int .i64 0, .string ⟨#[]⟩, .string ⟨#[]⟩, .int .i64 0, .int .i64 0, .int .i64 0, .int .u64 0, .int .i64 0, .slice none 0 0] 25) = w35x at *
        refine hK.out _ _ hbt (fun _ => ?_)
        clear hK hHeld K
        have hHeld := hbt
        clear hb hbt
        refine wpAnyH_ready (rs := [17]) (by kernel_rfl) (by simp) ?_
        refine (AllReadyH.cons rfl (fun K hK => ?_) AllReadyH.nil)
        go_simp
        refine (name_any _ _).mono ?_
        rintro e w36x ⟨⟨p2, rfl, hp2⟩, hb⟩
        have hbt := HB.trans hHeld hb
        have hxn := hxn.below hb
        go_wp2_with fail
        refine hK.out _ _ hbt (fun _ => ?_)
        clear hK hHeld K
        have hHeld := hbt
        clear hb hbt
        refine wpAnyH_ready (rs := [20]) (by kernel_rfl) (by simp) ?_
        refine (AllReadyH.cons rfl (fun K hK => ?_) AllReadyH.nil)
        go_simp
        refine (within_b fd 0 3 _ (by decide) (by decide) (by decide)).mono ?_
        rintro e w37x ⟨rfl, hb⟩
        have hbt := HB.trans hHeld hb
        have hxn := hxn.below hb
        go_wp2_with fail
        refine hK.out _ _ hbt (fun _ => ?_)
        clear hK hHeld K
        have hHeld := hbt
        clear hb hbt
        refine wpAnyH_ready (rs := [23]) (by kernel_rfl) (by simp) ?_
        refine (AllReadyH.cons rfl (fun K hK => ?_) AllReadyH.nil)
        go_simp
        refine (within_b at_ 0 50 _ (by decide) (by decide) (by decide)).mono ?_
        rintro e w38x ⟨rfl, hb⟩
        have hbt := HB.trans hHeld hb
        have hxn := hxn.below hb
        go_wp2_with fail
        refine hK.out _ _ hbt (fun _ => ?_)
        clear hK hHeld K
        have hHeld := hbt
        clear hb hbt
        refine wpAnyH_ready (rs := [26]) (by kernel_rfl) (by simp) ?_
        refine (AllReadyH.cons rfl (fun K hK => ?_) AllReadyH.nil)
        go_simp
        refine (within_b n 0 60 _ (by decide) (by decide) (by decide)).mono ?_
        rintro e w39x ⟨rfl, hb⟩
        have hbt := HB.trans hHeld hb
        have hxn := hxn.below hb
        go_wp2_with fail
        refine hK.out _ _ hbt (fun _ => ?_)
        clear hK hHeld K
        have hHeld := hbt
        clear hb hbt
        refine wpAnyH_ready (rs := [32]) (by kernel_rfl) (by simp) ?_
        refine (AllReadyH.cons rfl (fun K hK => ?_) AllReadyH.nil)
        go_simp
        refine (within_b sn 0 4 _ (by decide) (by decide) (by decide)).mono ?_
        rintro e w40x ⟨rfl, hb⟩
        have hbt := HB.trans hHeld hb
        have hxn := hxn.below hb
        go_wp2_with fail
        refine hK.out _ _ hbt (fun _ => ?_)
        clear hK hHeld K
        have hHeld := hbt
        clear hb hbt
        refine wpAnyH_ready (rs := [35]) (by kernel_rfl) (by simp) ?_
        refine (AllReadyH.cons rfl (fun K hK => ?_) AllReadyH.nil)
        go_simp
        refine (cutb_any 40 da dl dc _ hcap (by decide)).mono ?_
        rintro e w41x ⟨rfl, hb⟩
        have hbt := HB.trans hHeld hb
        have hxn := hxn.below hb
        go_wp2_with fail
        refine hK.out _ _ hbt (fun _ => ?_)
        clear hK hHeld K
        have hHeld := hbt
        clear hb hbt
        refine held_take (i := 36) (v := ?_) 40 rfl (by kernel_rfl) (by kernel_rfl) (by kernel_rfl) (fun _ _ _ h => h) rfl (by assumption) (Or.inl ⟨by rfl, ?_⟩) ?_
        rotate_left
        · intro w hSw; go_simp; (try with_reducible rfl)
        simp only [List.set_cons_zero, List.set_cons_succ]
        refine wpAnyH_ready (rs := [38]) (by kernel_rfl) (by simp) ?_
        refine (AllReadyH.cons rfl (fun K hK => ?_) AllReadyH.nil)
        have F := frozen_at hxn
        have z0 := F 0; have z1 := F 1; have z2 := F 2; have z3 := F 3; have z4 := F 4; have z5 := F 5; have z6 := F 6; have z7 := F 7; have z8 := F 8
        have C := cells_at hxn
        have y0 := C 0; have y1 := C 1; have y2 := C 2; have y3 := C 3; have y4 := C 4; have y5 := C 5; have y6 := C 6; have y7 := C 7; have y8 := C 8
        simp only [List.getElem?_toArray, List.getElem?_cons_zero, List.getElem?_cons_succ] at y0 y1 y2 y3 y4 y5 y6 y7 y8
        clear F C
        go_simp
        refine hK.out _ _ (below9 hHeld hxg _ _ _ _ _ _ _ _ _) (fun hH2 => ?_)
        clear hK K z0 z1 z2 z3 z4 z5 z6 z7 z8 y0 y1 y2 y3 y4 y5 y6 y7 y8
        refine wpAnyH_done (by kernel_rfl) ?_ _
        go_wp2_with fail
        go_meet
        exact ⟨X, p1, p2, rfl, hp1, hp2, store9 hxn, Nat.lt_of_lt_of_le hltR hxg, hE.step hH2, hO.below hH2 hlt, hH2.block R hltR |>.trans hR⟩
    · go_simp
      have hb : HB wd (wd.alloc (.cells #[.int .i64 0, .string ⟨#[]⟩, .string ⟨#[]⟩, .int .i64 0, .int .i64 0, .int .i64 0, .int .u64 0, .int .i64 0, .slice none 0 0] 25)) := (HB.refl _).alloc _
      have hbt := HB.trans hHeld hb
      have hxn : AtB (wd.alloc (.cells #[.int .i64 0, .string ⟨#[]⟩, .string ⟨#[]⟩, .int .i64 0, .int .i64 0, .int .i64 0, .int .u64 0, .int .i64 0, .slice none 0 0] 25)) wd.heap.size (.cells #[.int .i64 0, .string ⟨#[]⟩, .string ⟨#[]⟩, .int .i64 0, .int .i64 0, .int .i64 0, .int .u64 0, .int .i64 0, .slice none 0 0] 25) := heap_alloc_new _ _
      obtain ⟨X, hXe⟩ : ∃ X, X = wd.heap.size := ⟨_, rfl⟩
      have hxg : wd.heap.size ≤ X := by rw [hXe]; exact Below.size hHeld
      rw [← hXe] at hxn ⊢
      clear hXe
      generalize wd.alloc (.cells #[.int .i64 0, .string ⟨#[]⟩, .string ⟨#[]⟩, .int .i64 0, .int .i64 0, .int .i64 0, .int .u64 0, .int .i64 0, .slice none 0 0] 25) = w43x at *
      refine hK.out _ _ hbt (fun _ => ?_)
      clear hK hHeld K
      have hHeld := hbt
      clear hb hbt
      refine wpAnyH_ready (rs := [9]) (by kernel_rfl) (by simp) ?_
      refine (AllReadyH.cons rfl (fun K hK => ?_) AllReadyH.nil)
      go_simp
      refine (name_any _ _).mono ?_
      rintro e w44x ⟨⟨p1, rfl, hp1⟩, hb⟩
      have hbt := HB.trans hHeld hb
      have hxn := hxn.below hb
      go_wp2_with fail
      refine hK.out _ _ hbt (fun _ => ?_)
      clear hK hHeld K
      have hHeld := hbt
      clear hb hbt
      refine wpAnyH_ready (rs := [17]) (by kernel_rfl) (by simp) ?_
      refine (AllReadyH.cons rfl (fun K hK => ?_) AllReadyH.nil)
      go_simp
      refine (name_any _ _).mono ?_
      rintro e w45x ⟨⟨p2, rfl, hp2⟩, hb⟩
      have hbt := HB.trans hHeld hb
      have hxn := hxn.below hb
      go_wp2_with fail
      refine hK.out _ _ hbt (fun _ => ?_)
      clear hK hHeld K
      have hHeld := hbt
      clear hb hbt
      refine wpAnyH_ready (rs := [20]) (by kernel_rfl) (by simp) ?_
      refine (AllReadyH.cons rfl (fun K hK => ?_) AllReadyH.nil)
      go_simp
      refine (within_b fd 0 3 _ (by decide) (by decide) (by decide)).mono ?_
      rintro e w46x ⟨rfl, hb⟩
      have hbt := HB.trans hHeld hb
      have hxn := hxn.below hb
      go_wp2_with fail
      refine hK.out _ _ hbt (fun _ => ?_)
      clear hK hHeld K
      have hHeld := hbt
      clear hb hbt
      refine wpAnyH_ready (rs := [23]) (by kernel_rfl) (by simp) ?_
      refine (AllReadyH.cons rfl (fun K hK => ?_) AllReadyH.nil)
      go_simp
      refine (within_b at_ 0 50 _ (by decide) (by decide) (by decide)).mono ?_
      rintro e w47x ⟨rfl, hb⟩
      have hbt := HB.trans hHeld hb
      have hxn := hxn.below hb
      go_wp2_with fail
      refine hK.out _ _ hbt (fun _ => ?_)
      clear hK hHeld K
      have hHeld := hbt
      clear hb hbt
      refine wpAnyH_ready (rs := [26]) (by kernel_rfl) (by simp) ?_
      refine (AllReadyH.cons rfl (fun K hK => ?_) AllReadyH.nil)
      go_simp
      refine (within_b n 0 60 _ (by decide) (by decide) (by decide)).mono ?_
      rintro e w48x ⟨rfl, hb⟩
      have hbt := HB.trans hHeld hb
      have hxn := hxn.below hb
      go_wp2_with fail
      refine hK.out _ _ hbt (fun _ => ?_)
      clear hK hHeld K
      have hHeld := hbt
      clear hb hbt
      refine wpAnyH_ready (rs := [32]) (by kernel_rfl) (by simp) ?_
      refine (AllReadyH.cons rfl (fun K hK => ?_) AllReadyH.nil)
      go_simp
      refine (within_b sn 0 4 _ (by decide) (by decide) (by decide)).mono ?_
      rintro e w49x ⟨rfl, hb⟩
      have hbt := HB.trans hHeld hb
      have hxn := hxn.below hb
      go_wp2_with fail
      refine hK.out _ _ hbt (fun _ => ?_)
      clear hK hHeld K
      have hHeld := hbt
      clear hb hbt
      refine wpAnyH_ready (rs := [35]) (by kernel_rfl) (by simp) ?_
      refine (AllReadyH.cons rfl (fun K hK => ?_) AllReadyH.nil)
      go_simp
      refine (cutb_any 40 da dl dc _ hcap (by decide)).mono ?_
      rintro e w50x ⟨rfl, hb⟩
      have hbt := HB.trans hHeld hb
      have hxn := hxn.below hb
      go_wp2_with fail
      refine hK.out _ _ hbt (fun _ => ?_)
      clear hK hHeld K
      have hHeld := hbt
      clear hb hbt
      refine held_take (i := 36) (v := ?_) 40 rfl (by kernel_rfl) (by kernel_rfl) (by kernel_rfl) (fun _ _ _ h => h) rfl (by assumption) (Or.inl ⟨by rfl, ?_⟩) ?_
      rotate_left
      · intro w hSw; go_simp; (try with_reducible rfl)
      simp only [List.set_cons_zero, List.set_cons_succ]
      refine wpAnyH_ready (rs := [38]) (by kernel_rfl) (by simp) ?_
      refine (AllReadyH.cons rfl (fun K hK => ?_) AllReadyH.nil)
      have F := frozen_at hxn
      have z0 := F 0; have z1 := F 1; have z2 := F 2; have z3 := F 3; have z4 := F 4; have z5 := F 5; have z6 := F 6; have z7 := F 7; have z8 := F 8
      have C := cells_at hxn
      have y0 := C 0; have y1 := C 1; have y2 := C 2; have y3 := C 3; have y4 := C 4; have y5 := C 5; have y6 := C 6; have y7 := C 7; have y8 := C 8
      simp only [List.getElem?_toArray, List.getElem?_cons_zero, List.getElem?_cons_succ] at y0 y1 y2 y3 y4 y5 y6 y7 y8
      clear F C
      go_simp
      refine hK.out _ _ (below9 hHeld hxg _ _ _ _ _ _ _ _ _) (fun hH2 => ?_)
      clear hK K z0 z1 z2 z3 z4 z5 z6 z7 z8 y0 y1 y2 y3 y4 y5 y6 y7 y8
      refine wpAnyH_done (by kernel_rfl) ?_ _
      go_wp2_with fail
      go_meet
      exact ⟨X, p1, p2, rfl, hp1, hp2, store9 hxn, Nat.lt_of_lt_of_le hltR hxg, hE.step hH2, hO.below hH2 hlt, hH2.block R hltR |>.trans hR⟩
  case rest =>
  obtain ⟨X, p1, p2, rfl, hp1, hp2, hX, hRX, hE, hO, hR⟩ := hcut
  have hlH : H < wc.heap.size := Nat.lt_trans hHR (lt_of_heap hR)
  have hHX : X ≠ H := by omega
  have HR := Lib.hid hR
  have HX := Lib.hid hX
  have HOO := Lib.hid hO
  have c0 := hO.c0
  have c7 := hO.c7
  have f7 := frozen_at hX 7
  have e7 := cells_at hX 7
  simp only [tameCells, ovCells, List.getElem?_toArray, List.getElem?_cons_zero, List.getElem?_cons_succ] at e7
  have hw := within_bd sn 0 4 (by decide)
  clear hR hX hO
  go_upto_region 2 with fail
  go_cut [53] (fun s wx => (∃ b : Bool, s = .bool b) ∧ wc = wx)
  case first =>
    obtain ⟨b3, h3⟩ : ∃ b, (k == 3) = b := ⟨_, rfl⟩
    obtain ⟨b11, h11⟩ : ∃ b, (k == 11) = b := ⟨_, rfl⟩
    obtain ⟨b12, h12⟩ : ∃ b, (k == 12) = b := ⟨_, rfl⟩
    cases b3 <;> cases b11 <;> cases b12
    all_goals go_wp2_with fail
    all_goals go_meet
    all_goals exact ⟨⟨_, rfl⟩, rfl⟩
  case rest =>
  obtain ⟨⟨b, rfl⟩, rfl⟩ := hcut
  go_upto_if 53 with fail
  go_cut [] (fun wx => ∃ sn', 0 ≤ sn' ∧ sn' ≤ 4 ∧ wx.heap[X]? = some (.cells (tameCells k p1 p2 fd at_ n til sn' da dl dc) 25 (0, 0)) ∧ Ext H w wx ∧ wx.heap[R]? = some (.cells #[.int .i64 0, .string ⟨#[]⟩, .string ⟨#[]⟩, .int .i64 0, .int .i64 0, .int .i64 0, .int .u64 0, .int .i64 0, .slice none 0 0] 25 (0, 0)))
  case first =>
    obtain ⟨b7, h7⟩ : ∃ b, (sn.tmod 3 != 0) = b := ⟨_, rfl⟩
    cases b <;> cases b7
    all_goals go_wp2_with fail
    all_goals go_meet
    all_goals (first | exact ⟨within sn 0 4, hw.1, hw.2, HX.out, hE, HR.out⟩ | exact ⟨0, by decide, by decide, cells_set (k := 7) HX.out, hE.setCell (p := ⟨X, 7, none⟩) (by show H ≤ X; omega) _, cells_far HR.out (by omega)⟩)
  case rest =>
  clear hE c0 c7 f7 e7 HR HX HOO hw hlH
  obtain ⟨sn', hs1, hs2, hX, hE, hR⟩ := hcut
  have F := frozen_at hR
  have z0 := F 0; have z1 := F 1; have z2 := F 2; have z3 := F 3; have z4 := F 4; have z5 := F 5; have z6 := F 6; have z7 := F 7; have z8 := F 8
  have C := cells_at hR
  have y0 := C 0; have y1 := C 1; have y2 := C 2; have y3 := C 3; have y4 := C 4; have y5 := C 5; have y6 := C 6; have y7 := C 7; have y8 := C 8
  simp only [List.getElem?_toArray, List.getElem?_cons_zero, List.getElem?_cons_succ] at y0 y1 y2 y3 y4 y5 y6 y7 y8
  have c := cells_at hX
  have c0 := c 0; have c1 := c 1; have c2 := c 2; have c3 := c 3; have c4 := c 4; have c5 := c 5; have c6 := c 6; have c7 := c 7; have c8 := c 8
  simp only [tameCells, ovCells, List.getElem?_toArray, List.getElem?_cons_zero, List.getElem?_cons_succ] at c0 c1 c2 c3 c4 c5 c6 c7 c8
  clear c F C hX hR
  have hRH : H ≤ R := by omega
  go_upto_region 5 with fail
  repeat go_step
  refine bodyPost_ret (v := .agg (tameCells k p1 p2 fd at_ n til sn' da dl dc)) (by simp [results, Try.results10, go_sem, tameCells, ovCells, y0, y1, y2, y3, y4, y5, y6, y7, y8]) rfl ⟨⟨p1, p2, sn', rfl, hp1, hp2, hs1, hs2⟩, ?_⟩
  rw [← HH.out]
  exact (((((((((hE.setCell hRH _).setCell hRH _).setCell hRH _).setCell hRH _).setCell hRH _).setCell hRH _).setCell hRH _).setCell hRH _).setCell hRH _).1
end Go.Proofs.Ytphjdlckoddgmaa
