/- The walk of permafrostlaw25.ExtractHeads. -/
import Derived.Test.YtdglhonogopciaaExtrKnown
import Derived.Test.YtdglhonogopciaaSizedb
import Derived.Test.YtdglhonogopciaaWithin
import Derived.Test.YtdglhonogopciaaHeldB
import Derived.Test.YtdglhonogopciaaTools2
import Derived.Test.YtdglhonogopciaaArg
import Derived.Deep.Cut
import Derived.Deep.DeepCutAuto
namespace Go.Proofs.Ytdglhonogopciaa
open Go.RowKit

theorem bei (a b : Nat) : ∀ k, be a k = be b k → a % 256 ^ k = b % 256 ^ k
  | 0, _ => by simp [Nat.mod_one]
  | k + 1, h => by
    have h1 : ∀ a : Nat, a % 256 ^ (k + 1) = a % 256 ^ k + 256 ^ k * (a / 256 ^ k % 256) := fun a => by rw [Nat.pow_succ, Nat.mod_mul]
    simp only [be, List.cons.injEq] at h
    have h2 := congrArg UInt8.toNat h.1
    rw [UInt8.toNat_ofNat', UInt8.toNat_ofNat', show (2 : Nat) ^ 8 = 256 from rfl] at h2
    rw [h1 a, h1 b, bei a b k h.2, h2]
theorem hdRow_inj {i f c i' f' c' : Nat} {P R P' R' : List UInt8} (hi : i ≤ 65535) (hc : c ≤ 65535) (hf : f ≤ 1099511627776) (hi' : i' ≤ 65535) (hc' : c' ≤ 65535) (hf' : f' ≤ 1099511627776) (hP : P.length = 32) (hP' : P'.length = 32)
    (h : hdRow i f c P R = hdRow i' f' c' P' R') : i = i' ∧ f = f' ∧ c = c' ∧ P = P' ∧ R = R' := by
  unfold hdRow at h
  obtain ⟨_, h⟩ := List.append_inj h (by simp [be_length])
  obtain ⟨h1, h⟩ := List.append_inj h (by simp [be_length])
  obtain ⟨h2, h⟩ := List.append_inj h (by simp [be_length])
  obtain ⟨h3, h⟩ := List.append_inj h (by simp [be_length])
  obtain ⟨h4, h5⟩ := List.append_inj h (by omega)
  have e1 := bei _ _ 2 h1
  have e2 := bei _ _ 8 h2
  have e3 := bei _ _ 2 h3
  exact ⟨by omega, by omega, by omega, h4, h5⟩

/-- what a head was handed in as -/
structure Rw where
  i : Int
  f : Nat
  c : Int
  n : Int
  pa : Option Addr
  pl : Nat
  pc : Nat
  P : List UInt8
  ra : Option Addr
  rl : Nat
  rc : Nat
  R : List UInt8
def Rw.cells (x : Rw) : Array Value := #[.int .i64 x.i, .int .u64 (x.f : Int), .int .i64 x.c, .int .i64 x.n, .slice x.pa x.pl x.pc, .slice x.ra x.rl x.rc]
theorem Arg.head {w : World} {v : Value} (h : Arg Try.prog w 25 v) :
    ∃ x : Rw, v = .agg x.cells ∧ x.f < 18446744073709551616 ∧ Bs w x.pa x.pl x.pc x.P ∧ Bs w x.ra x.rl x.rc x.R := by
  obtain ⟨cs, rfl, hs, hf⟩ := h.struct Try.underlying25
  rw [show Try.prog.cellsOf 25 = 6 by kernel_rfl] at hs
  obtain ⟨l⟩ := cs
  obtain ⟨x0, x1, x2, x3, x4, x5, rfl⟩ : ∃ x0 x1 x2 x3 x4 x5, l = [x0, x1, x2, x3, x4, x5] := by
    match l, hs with
    | [a, b, c, d, e, f], _ => exact ⟨a, b, c, d, e, f, rfl⟩
  have q0 : Can Try.prog w 3 (([x0, x1, x2, x3, x4, x5].drop 0).take (Try.prog.cellsOf 3)) := hf 0 _ rfl
  have q1 : Can Try.prog w 22 (([x0, x1, x2, x3, x4, x5].drop 1).take (Try.prog.cellsOf 22)) := hf 1 _ rfl
  have q2 : Can Try.prog w 3 (([x0, x1, x2, x3, x4, x5].drop 2).take (Try.prog.cellsOf 3)) := hf 2 _ rfl
  have q3 : Can Try.prog w 3 (([x0, x1, x2, x3, x4, x5].drop 3).take (Try.prog.cellsOf 3)) := hf 3 _ rfl
  have q4 : Can Try.prog w 23 (([x0, x1, x2, x3, x4, x5].drop 4).take (Try.prog.cellsOf 23)) := hf 4 _ rfl
  have q5 : Can Try.prog w 23 (([x0, x1, x2, x3, x4, x5].drop 5).take (Try.prog.cellsOf 23)) := hf 5 _ rfl
  rw [show Try.prog.cellsOf 3 = 1 by kernel_rfl] at q0 q2 q3
  rw [show Try.prog.cellsOf 22 = 1 by kernel_rfl] at q1
  rw [show Try.prog.cellsOf 23 = 1 by kernel_rfl] at q4 q5
  obtain ⟨i, h0, _⟩ := q0.int Try.underlying3
  obtain ⟨t, h1, htw⟩ := q1.int Try.underlying22
  obtain ⟨c, h2, _⟩ := q2.int Try.underlying3
  obtain ⟨n, h3, _⟩ := q3.int Try.underlying3
  obtain ⟨pa, pl, pc, P, h4, hP⟩ := q4.bytes Try.underlying23 Try.underlying5 (by kernel_rfl)
  obtain ⟨ra, rl, rc, R, h5, hR⟩ := q5.bytes Try.underlying23 Try.underlying5 (by kernel_rfl)
  have hb : 0 ≤ t ∧ t < 18446744073709551616 := by simp [Lit.wf, IntKind.min, IntKind.max, IntKind.bits, IntKind.signed] at htw; omega
  obtain ⟨m, rfl⟩ : ∃ m : Nat, t = (m : Int) := ⟨t.toNat, by omega⟩
  simp at h0 h1 h2 h3 h4 h5
  subst h0 h1 h2 h3 h4 h5
  exact ⟨⟨i, m, c, n, pa, pl, pc, P, ra, rl, rc, R⟩, rfl, by show m < 18446744073709551616; omega, hP, hR⟩

theorem Own.ofh {w : World} {B : Nat} {v : Value} {xs : List UInt8} (h : Own w B v xs) : ∀ k, v.ownBlock = some k → B ≤ k := by
  intro k hk
  rcases h.parts with ⟨rfl, _⟩ | ⟨g, cap, rfl, h2, _⟩
  · simp [Value.ownBlock] at hk
  · simp [Value.ownBlock] at hk; omega
/-- a head's block: as it came, or brought into its bounds -/
def Raw (w : World) (b : Nat) (x : Rw) : Prop := w.heap[b]? = some (.cells x.cells 25 (0, 0)) ∧ Bs w x.pa x.pl x.pc x.P ∧ Bs w x.ra x.rl x.rc x.R
def Nrm (w : World) (b B : Nat) (x : Rw) : Prop := ∃ pa pc ra rc, w.heap[b]? = some (.cells #[.int .i64 (within x.i 0 65535), .int .u64 ((x.f % 1099511627776 : Nat) : Int), .int .i64 (within x.c 0 65535), .int .i64 x.n, .slice pa 32 pc, .slice ra 32 rc] 25 (0, 0)) ∧
  Own w B (.slice pa 32 pc) (sizedOf 32 x.P) ∧ Own w B (.slice ra 32 rc) (sizedOf 32 x.R)
theorem Nrm.chg {w w' : World} {b B q : Nat} {x : Rw} (h : Nrm w b B x) (hc : Chg (fun k => k = q) w w') (hb : b < w.heap.size) (hq : b ≠ q) (hqB : q < B) : Nrm w' b B x := by
  obtain ⟨pa, pc, ra, rc, h1, h2, h3⟩ := h
  exact ⟨pa, pc, ra, rc, (hc.block b hb hq).trans h1, hc.own h2 (fun k hk e => by have := h2.ofh k hk; omega), hc.own h3 (fun k hk e => by have := h3.ofh k hk; omega)⟩
theorem Bs.chq {w0 w w' : World} {q : Nat} {a : Option Addr} {len cap : Nat} {xs : List UInt8} (h : Bs w0 a len cap xs) (hE : Below w0.heap.size w0 w) (hc : Chg (fun k => k = q) w w') (hq : w0.heap.size ≤ q) : Bs w' a len cap xs := by
  have hb : Below w0.heap.size w w' := hc.below hE.size (fun k _ hk => by omega)
  exact h.below (hE.trans hb)

theorem Own.bsx {w : World} {B n : Nat} {a : Option Addr} {c : Nat} {xs : List UInt8} (h : Own w B (.slice a n c) xs) (hn : xs.length = n) : Bs w a n c xs := by
  obtain ⟨a', c', e, hB⟩ := h.bsn hn
  injection e with e1 e2 e3
  subst e1 e3
  exact hB
theorem Nrm.data {w : World} {b B : Nat} {x : Rw} (h : Nrm w b B x) : ∃ (i f c : Nat) (n : Int) (pa : Option Addr) (pc : Nat) (ra : Option Addr) (rc : Nat) (P R : List UInt8), i ≤ 65535 ∧ c ≤ 65535 ∧ f ≤ 1099511627776 ∧ w.heap[b]? = some (.cells (hdCells i f c n pa pc ra rc) 25 (0, 0)) ∧ Bs w pa 32 pc P ∧ Bs w ra 32 rc R := by
  obtain ⟨pa, pc, ra, rc, h1, h2, h3⟩ := h
  have hib := within_bd x.i 0 65535 (by decide)
  have hcb := within_bd x.c 0 65535 (by decide)
  have hfl : x.f % 1099511627776 < 1099511627776 := Nat.mod_lt _ (by decide)
  obtain ⟨i, hi⟩ : ∃ i : Nat, within x.i 0 65535 = (i : Int) := ⟨(within x.i 0 65535).toNat, by omega⟩
  obtain ⟨c, hc⟩ : ∃ c : Nat, within x.c 0 65535 = (c : Int) := ⟨(within x.c 0 65535).toNat, by omega⟩
  rw [hi, hc] at h1
  exact ⟨i, x.f % 1099511627776, c, x.n, pa, pc, ra, rc, _, _, by omega, by omega, by omega, h1, h2.bsx (sizedOf_length _ _), h3.bsx (sizedOf_length _ _)⟩
theorem Bs.offHd {w : World} {b : Nat} {i f c : Nat} {n : Int} {pa ra : Option Addr} {pc rc : Nat} {T : TypeId} {a : Option Addr} {len cap : Nat} {xs : List UInt8} (h : Bs w a len cap xs) (hq : w.heap[b]? = some (.cells (hdCells i f c n pa pc ra rc) T (0, 0))) (h0 : 0 < len) (ad : Addr) (had : a = some ad) : ad.block ≠ b := by
  obtain ⟨h1, h2, h3, h4⟩ := h
  rcases h4 with h4 | ⟨b', off, rfl, h5, h6⟩
  · omega
  · injection had with had; subst had
    rintro rfl
    have := h6 0 (by omega)
    rw [cells_at hq] at this
    unfold hdCells at this
    match off, this with
    | 0, h | 1, h | 2, h | 3, h | 4, h | 5, h => simp at h
    | k + 6, h => simp at h
theorem put7 {w W : World} {H : Nat} {o : Option Obj} {z0 z1 z2 z3 z4 z5 : Value} {T : TypeId} (q0 : w.heap[H]? = o) (q1 : w.heap[H + 1]? = some (.cells #[z0, z1, z2, z3, z4, z5] T (0, 0))) (hl : H + 1 < w.heap.size) (v0 v1 v2 v3 v4 v5 v6 : Value)
    (hW : (((((((w.setCell ⟨H + 1, 0, none⟩ v0).setCell ⟨H + 1, 1, none⟩ v1).setCell ⟨H + 1, 2, none⟩ v2).setCell ⟨H + 1, 3, none⟩ v3).setCell ⟨H + 1, 4, none⟩ v4).setCell ⟨H + 1, 5, none⟩ v5).setCell ⟨H + 1, 3, none⟩ v6) = W) :
    W.heap[H]? = o ∧ W.heap[H + 1]? = some (.cells #[v0, v1, v2, v6, v4, v5] T (0, 0)) ∧ Chg (fun q => q = H + 1) w W ∧ (H ≤ w.heap.size → Below H w W) ∧ w.heap.size ≤ W.heap.size := by
  have hH0 : H < w.heap.size := by omega
  have hH1 : H ≠ H + 1 := by omega
  obtain ⟨w0, h0⟩ : ∃ w0, w0 = w.setCell ⟨H + 1, 0, none⟩ v0 := ⟨_, rfl⟩
  rw [← h0] at hW
  have s0 : Chg (fun q => q = H + 1) w w0 := by rw [h0]; exact (Chg.refl (fun q => q = H + 1) w).setCell (p := ⟨H + 1, 0, none⟩) (fun _ => rfl) v0
  have e0 : w0.heap[H + 1]? = some (.cells #[v0, z1, z2, z3, z4, z5] T (0, 0)) := by rw [h0]; exact cells_set (k := 0) (y := v0) q1
  clear h0
  obtain ⟨w1, h1⟩ : ∃ w1, w1 = w0.setCell ⟨H + 1, 1, none⟩ v1 := ⟨_, rfl⟩
  rw [← h1] at hW
  have s1 : Chg (fun q => q = H + 1) w w1 := by rw [h1]; exact s0.setCell (p := ⟨H + 1, 1, none⟩) (fun _ => rfl) v1
  have e1 : w1.heap[H + 1]? = some (.cells #[v0, v1, z2, z3, z4, z5] T (0, 0)) := by rw [h1]; exact cells_set (k := 1) (y := v1) e0
  clear h1
  obtain ⟨w2, h2⟩ : ∃ w2, w2 = w1.setCell ⟨H + 1, 2, none⟩ v2 := ⟨_, rfl⟩
  rw [← h2] at hW
  have s2 : Chg (fun q => q = H + 1) w w2 := by rw [h2]; exact s1.setCell (p := ⟨H + 1, 2, none⟩) (fun _ => rfl) v2
  have e2 : w2.heap[H + 1]? = some (.cells #[v0, v1, v2, z3, z4, z5] T (0, 0)) := by rw [h2]; exact cells_set (k := 2) (y := v2) e1
  clear h2
  obtain ⟨w3, h3⟩ : ∃ w3, w3 = w2.setCell ⟨H + 1, 3, none⟩ v3 := ⟨_, rfl⟩
  rw [← h3] at hW
  have s3 : Chg (fun q => q = H + 1) w w3 := by rw [h3]; exact s2.setCell (p := ⟨H + 1, 3, none⟩) (fun _ => rfl) v3
  have e3 : w3.heap[H + 1]? = some (.cells #[v0, v1, v2, v3, z4, z5] T (0, 0)) := by rw [h3]; exact cells_set (k := 3) (y := v3) e2
  clear h3
  obtain ⟨w4, h4⟩ : ∃ w4, w4 = w3.setCell ⟨H + 1, 4, none⟩ v4 := ⟨_, rfl⟩
  rw [← h4] at hW
  have s4 : Chg (fun q => q = H + 1) w w4 := by rw [h4]; exact s3.setCell (p := ⟨H + 1, 4, none⟩) (fun _ => rfl) v4
  have e4 : w4.heap[H + 1]? = some (.cells #[v0, v1, v2, v3, v4, z5] T (0, 0)) := by rw [h4]; exact cells_set (k := 4) (y := v4) e3
  clear h4
  obtain ⟨w5, h5⟩ : ∃ w5, w5 = w4.setCell ⟨H + 1, 5, none⟩ v5 := ⟨_, rfl⟩
  rw [← h5] at hW
  have s5 : Chg (fun q => q = H + 1) w w5 := by rw [h5]; exact s4.setCell (p := ⟨H + 1, 5, none⟩) (fun _ => rfl) v5
  have e5 : w5.heap[H + 1]? = some (.cells #[v0, v1, v2, v3, v4, v5] T (0, 0)) := by rw [h5]; exact cells_set (k := 5) (y := v5) e4
  clear h5
  obtain ⟨w6, h6⟩ : ∃ w6, w6 = w5.setCell ⟨H + 1, 3, none⟩ v6 := ⟨_, rfl⟩
  rw [← h6] at hW
  have s6 : Chg (fun q => q = H + 1) w w6 := by rw [h6]; exact s5.setCell (p := ⟨H + 1, 3, none⟩) (fun _ => rfl) v6
  have e6 : w6.heap[H + 1]? = some (.cells #[v0, v1, v2, v6, v4, v5] T (0, 0)) := by rw [h6]; exact cells_set (k := 3) (y := v6) e5
  clear h6
  subst hW
  exact ⟨(s6.block H hH0 hH1).trans q0, e6, s6, fun hH => s6.below hH (fun k _ hk => hk ▸ Nat.le_succ H), s6.size⟩
/-- both heads, fit to be asked -/
def HRel (H : Nat) (w wx : World) : Prop := ∃ (i f c : Nat) (n : Int) (pa : Option Addr) (pc : Nat) (ra : Option Addr) (rc : Nat) (P R : List UInt8) (i' f' c' : Nat) (n' : Int) (pa' : Option Addr) (pc' : Nat) (ra' : Option Addr) (rc' : Nat) (P' R' : List UInt8),
  (i ≤ 65535 ∧ c ≤ 65535 ∧ f ≤ 1099511627776 ∧ i' ≤ 65535 ∧ c' ≤ 65535 ∧ f' ≤ 1099511627776) ∧ wx.heap[H]? = some (.cells (hdCells i f c n pa pc ra rc) 25 (0, 0)) ∧ wx.heap[H + 1]? = some (.cells (hdCells i' f' c' n' pa' pc' ra' rc') 25 (0, 0)) ∧
  (Bs wx pa 32 pc P ∧ Bs wx ra 32 rc R ∧ Bs wx pa' 32 pc' P' ∧ Bs wx ra' 32 rc' R') ∧ Ext H w wx ∧ H + 3 ≤ wx.heap.size

set_option maxRecDepth 100000 in
set_option maxHeartbeats 4000000 in
theorem eheads_any (x y : Rw) (same : Bool) (w : World) (hx : x.f < 18446744073709551616) (hy : y.f < 18446744073709551616) (hxP : Bs w x.pa x.pl x.pc x.P) (hxR : Bs w x.ra x.rl x.rc x.R) (hyP : Bs w y.pa y.pl y.pc y.P) (hyR : Bs w y.ra y.rl y.rc y.R) :
    Calls Try.prog 3 #[.agg x.cells, .agg y.cells, .bool same] w fun e w' => e = .returned (.bool true) ∧ Below w.heap.size w w' := by
  obtain ⟨H, hH⟩ : ∃ H, H = w.heap.size := ⟨_, rfl⟩
  have HH := Lib.hid hH
  obtain ⟨w0, hw0⟩ : ∃ w0, w0 = ((w.alloc (.cells x.cells 25)).alloc (.cells y.cells 25)).alloc (.cells #[.pointer (some ⟨w.heap.size, 0, none⟩), .pointer (some ⟨w.heap.size + 1, 0, none⟩)] 26) := ⟨_, rfl⟩
  have hE0 : Ext w.heap.size w w0 := by rw [hw0]; exact (((Ext.refl w).alloc _).alloc _).alloc _
  have hsz : w0.heap.size = w.heap.size + 3 := by rw [hw0]; simp
  have hq0 : w0.heap[w.heap.size]? = some (.cells x.cells 25 (0, 0)) := by
    rw [hw0]; exact (Below.heap_alloc _ _ _ (by simp; omega)).trans ((Below.heap_alloc _ _ _ (by simp)).trans (heap_alloc_new w _))
  have hq1 : w0.heap[w.heap.size + 1]? = some (.cells y.cells 25 (0, 0)) := by
    have := heap_alloc_new (w.alloc (.cells x.cells 25)) (.cells y.cells 25)
    rw [World.size_alloc] at this
    rw [hw0]; exact (Below.heap_alloc _ _ _ (by simp)).trans this
  have hq2 : w0.heap[w.heap.size + 2]? = some (.cells #[.pointer (some ⟨w.heap.size, 0, none⟩), .pointer (some ⟨w.heap.size + 1, 0, none⟩)] 26 (0, 0)) := by
    have := heap_alloc_new ((w.alloc (.cells x.cells 25)).alloc (.cells y.cells 25)) (.cells #[.pointer (some ⟨w.heap.size, 0, none⟩), .pointer (some ⟨w.heap.size + 1, 0, none⟩)] 26)
    rw [World.size_alloc, World.size_alloc] at this
    rw [hw0]; exact this
  rw [← hH] at hE0 hsz hq0 hq1 hq2
  have HW0 := Lib.hid hw0
  have HX := Lib.hid hx
  have HY := Lib.hid hy
  have HXP := Lib.hid hxP
  have HXR := Lib.hid hxR
  have HYP := Lib.hid hyP
  have HYR := Lib.hid hyR
  have hz0 : Raw w0 H x := ⟨hq0, hxP.below (by rw [← hH]; exact hE0.1), hxR.below (by rw [← hH]; exact hE0.1)⟩
  have hz1 : Raw w0 (H + 1) y := ⟨hq1, hyP.below (by rw [← hH]; exact hE0.1), hyR.below (by rw [← hH]; exact hE0.1)⟩
  clear hw0 hx hy hxP hxR hyP hyR hq0 hq1
  have HZ := Lib.hid (And.intro hz0 (And.intro hz1 (And.intro hE0 (And.intro hsz hq2))))
  clear hz0 hz1 hE0 hsz hq2
  go_enter Try.func3, Try.ntmps3
  go_upto_block 0 with fail
  simp only [Nat.add_assoc, Nat.reduceAdd]
  rw [← HW0.out, ← hH]
  clear hH
  go_cut [8] (fun _ wx => Nrm wx H (H + 3) x ∧ Nrm wx (H + 1) (H + 3) y ∧ Ext H w wx ∧ H + 3 ≤ wx.heap.size)
  case first =>
    go_wp2_with fail
    go_loopw [17] (fun i wr => ∃ k : Nat, i = .int .i64 k ∧ Ext H w wr ∧ H + 3 ≤ wr.heap.size ∧ wr.heap[H + 2]? = some (.cells #[.pointer (some ⟨H, 0, none⟩), .pointer (some ⟨H + 1, 0, none⟩)] 26 (0, 0)) ∧
      (k = 0 ∧ Raw wr H x ∧ Raw wr (H + 1) y ∨ k = 1 ∧ Nrm wr H (H + 3) x ∧ Raw wr (H + 1) y ∨ k = 2 ∧ Nrm wr H (H + 3) x ∧ Nrm wr (H + 1) (H + 3) y)) (fun i _ => 2 - (intOf i).toNat)
    case atStart =>
      obtain ⟨hz0, hz1, hE0, hsz, hq2⟩ := HZ.out
      exact ⟨0, rfl, hE0, by omega, hq2, .inl ⟨rfl, hz0, hz1⟩⟩
    case round =>
      obtain ⟨k, rfl, hE, hsz, hq2, hst⟩ := hrel
      by_cases hk2 : k = 2
      · subst hk2
        obtain ⟨h1, _⟩ | ⟨h1, _⟩ | ⟨_, hn0, hn1⟩ := hst
        · omega
        · omega
        go_wp2_with fail
        go_meet
        exact ⟨hn0, hn1, hE, hsz⟩
      obtain ⟨p, z, hk1, hptr, hpH, hraw, hzw, hREST⟩ : ∃ (p : Nat) (z : Rw), k < 2 ∧ wr.cell? ⟨H + 2, k, none⟩ = some (.pointer (some ⟨p, 0, none⟩)) ∧ (H ≤ p ∧ p < H + 2) ∧ Raw wr p z ∧ (Bs w z.pa z.pl z.pc z.P ∧ Bs w z.ra z.rl z.rc z.R) ∧
          (∀ w5, Chg (fun q => q = p) wr w5 → Nrm w5 p (H + 3) z → (k + 1 = 1 ∧ Nrm w5 H (H + 3) x ∧ Raw w5 (H + 1) y ∨ k + 1 = 2 ∧ Nrm w5 H (H + 3) x ∧ Nrm w5 (H + 1) (H + 3) y)) := by
        have hc := cells_at hq2
        rcases hst with ⟨rfl, h1, h2⟩ | ⟨rfl, h1, h2⟩ | ⟨h0, _⟩
        · refine ⟨H, x, by omega, hc 0, by omega, h1, ⟨HXP.out, HXR.out⟩, fun w5 hC hN => .inl ⟨rfl, hN, ?_⟩⟩
          exact ⟨(hC.block _ (by omega) (by omega)).trans h2.1, HYP.out.chq (by rw [← HH.out]; exact hE.1) hC (by rw [← HH.out]; exact Nat.le_refl _), HYR.out.chq (by rw [← HH.out]; exact hE.1) hC (by rw [← HH.out]; exact Nat.le_refl _)⟩
        · exact ⟨H + 1, y, by omega, hc 1, by omega, h2, ⟨HYP.out, HYR.out⟩, fun w5 hC hN => .inr ⟨rfl, h1.chg hC (by omega) (by omega) (by omega), hN⟩⟩
        · exact absurd h0 hk2
      clear hst
      obtain ⟨i, f, c, n, pa, pl, pc, P, ra, rl, rc, R⟩ := z
      obtain ⟨hheap, hBP, hBR⟩ := hraw
      unfold Rw.cells at hheap
      dsimp only at hheap hBP hBR hzw
      have HZP := Lib.hid hzw
      have HSW := Lib.hid hsz
      clear hBP hBR hzw
      have HR := Lib.hid hREST
      have HQ2 := Lib.hid hq2
      have HE := Lib.hid hE
      clear hREST hq2 hE
      obtain ⟨⟨c0, c1, c2, c3, c4, c5⟩, f0, f1, f2, f3, f4, f5⟩ := six_cells hheap
      have hib := within_bd i 0 65535 (by decide)
      have hcb := within_bd c 0 65535 (by decide)
      have HWi := Lib.hid (fun w => within_any i 0 65535 w (by decide) (by decide) (by decide))
      have HWc := Lib.hid (fun w => within_any c 0 65535 w (by decide) (by decide) (by decide))
      have hfm : (f : Int).tmod 1099511627776 = ((f % 1099511627776 : Nat) : Int) := by rw [Int.tmod_eq_emod_of_nonneg (by omega)]; omega
      have hfl : f % 1099511627776 < 1099511627776 := Nat.mod_lt _ (by decide)
      obtain ⟨I, hI⟩ : ∃ I, within i 0 65535 = I := ⟨_, rfl⟩
      obtain ⟨C, hC⟩ : ∃ C, within c 0 65535 = C := ⟨_, rfl⟩
      obtain ⟨F, hF⟩ : ∃ F, f % 1099511627776 = F := ⟨_, rfl⟩
      rw [hI] at hib HWi
      rw [hC] at hcb HWc
      rw [hF] at hfm hfl
      have HI := Lib.hid (And.intro hI (And.intro hC hF))
      have hk0 : (0 : Int) ≤ (k : Int) := by omega
      have hk3 : (k : Int) < 2 := by omega
      clear hI hC hF hk2
      go_wp2_with fail
      refine (HWi.out _).mono ?_
      rintro e wq ⟨rfl, rfl⟩
      go_wp2_with fail
      refine (HWc.out _).mono ?_
      rintro e wq ⟨rfl, rfl⟩
      go_upto_region 7 with fail
      have hC6 : Chg (fun q => q = p) wr (((wr.setCell ⟨p, 0, none⟩ (.int .i64 I)).setCell ⟨p, 2, none⟩ (.int .i64 C)).setCell ⟨p, 1, none⟩ (.int .u64 (F : Int))) := (((Chg.refl (fun q => q = p) wr).setCell (p := ⟨p, 0, none⟩) (fun _ => rfl) _).setCell (p := ⟨p, 2, none⟩) (fun _ => rfl) _).setCell (p := ⟨p, 1, none⟩) (fun _ => rfl) _
      have hheap6 : (((wr.setCell ⟨p, 0, none⟩ (.int .i64 I)).setCell ⟨p, 2, none⟩ (.int .i64 C)).setCell ⟨p, 1, none⟩ (.int .u64 (F : Int))).heap[p]? = some (.cells #[.int .i64 I, .int .u64 (F : Int), .int .i64 C, .int .i64 n, .slice pa pl pc, .slice ra rl rc] 25 (0, 0)) := cells_set (k := 1) (y := .int .u64 (F : Int)) (cells_set (k := 2) (y := .int .i64 C) (cells_set (k := 0) (y := .int .i64 I) hheap))
      generalize hwk : (((wr.setCell ⟨p, 0, none⟩ (.int .i64 I)).setCell ⟨p, 2, none⟩ (.int .i64 C)).setCell ⟨p, 1, none⟩ (.int .u64 (F : Int))) = wk at *
      clear hwk
      have hpk : p < wk.heap.size := Nat.lt_of_lt_of_le (by omega) hC6.size
      have hBP : Bs wk pa pl pc P := HZP.out.1.chq (by rw [← HH.out]; exact HE.out.1) hC6 (by rw [← HH.out]; exact hpH.1)
      have hBR : Bs wk ra rl rc R := HZP.out.2.chq (by rw [← HH.out]; exact HE.out.1) hC6 (by rw [← HH.out]; exact hpH.1)
      have hBRd := hBR.drew
      have hheapd : wk.drew.heap[p]? = _ := hheap6
      have hpd : p < wk.drew.heap.size := hpk
      have hCd := hC6.drew
      obtain ⟨⟨_, _, _, _, d4, d5⟩, _⟩ := six_cells hheap6
      have HSZ := Lib.hid (show H + 3 ≤ wk.drew.heap.size from Nat.le_trans hsz hC6.size)
      clear hptr hheap c0 c1 c2 c3 c4 c5 f0 f1 f2 f3 f4 f5 hheap6 hC6 hBR hsz hpk
      refine heldB_start (fun i => [0, 2, 3, 4, 5, 6, 10, 11, 13].contains i) (fun w' => w'.cell? ⟨p, 4, none⟩ = some (.slice pa pl pc) ∧ w'.cell? ⟨p, 5, none⟩ = some (.slice ra rl rc)) (by kernel_rfl) ?_ (fun hHeld => ?_)
      · go_keep
      refine heldB_free (i := 1) (v := ?_) 46 rfl (by kernel_rfl) (by kernel_rfl) (by kernel_rfl) (by kernel_rfl) (fun _ _ _ h => h) rfl (Or.inl ⟨by rfl, ?_⟩) ?_
      rotate_left
      · intro w hSw; (try dsimp only at hSw); go_simp; (try with_reducible rfl)
      simp only [List.set_cons_zero, List.set_cons_succ]
      refine heldB_free (i := 7) (v := ?_) 52 rfl (by kernel_rfl) (by kernel_rfl) (by kernel_rfl) (by kernel_rfl) (fun _ _ _ h => h) rfl (Or.inl ⟨by rfl, ?_⟩) ?_
      rotate_left
      · intro w hSw; (try dsimp only at hSw); go_simp; (try with_reducible rfl)
      simp only [List.set_cons_zero, List.set_cons_succ]
      refine heldB_free (i := 8) (v := ?_) 53 rfl (by kernel_rfl) (by kernel_rfl) (by kernel_rfl) (by kernel_rfl) (fun _ _ _ h => h) rfl (Or.inl ⟨by rfl, ?_⟩) ?_
      rotate_left
      · intro w hSw; (try dsimp only at hSw); go_simp; (try with_reducible rfl)
      simp only [List.set_cons_zero, List.set_cons_succ]
      refine heldB_free (i := 9) (v := ?_) 54 rfl (by kernel_rfl) (by kernel_rfl) (by kernel_rfl) (by kernel_rfl) (fun _ _ _ h => h) rfl (Or.inl ⟨by rfl, ?_⟩) ?_
      rotate_left
      · intro w hSw; (try dsimp only at hSw); go_simp; (try with_reducible rfl)
      simp only [List.set_cons_zero, List.set_cons_succ]
      refine heldB_take (i := 0) (v := ?_) 45 rfl (by kernel_rfl) (by kernel_rfl) (by kernel_rfl) (by kernel_rfl) (fun _ _ _ h => h) rfl (by assumption) (Or.inl ⟨by rfl, ?_⟩) ?_
      rotate_left
      · intro w hSw; (try dsimp only at hSw); go_simp; (try with_reducible rfl)
      simp only [List.set_cons_zero, List.set_cons_succ]
      refine heldB_take (i := 2) (v := ?_) 47 rfl (by kernel_rfl) (by kernel_rfl) (by kernel_rfl) (by kernel_rfl) (fun _ _ _ h => h) rfl (by assumption) (Or.inl ⟨by rfl, ?_⟩) ?_
      rotate_left
      · intro w hSw; (try dsimp only at hSw); go_simp; (try with_reducible rfl)
      simp only [List.set_cons_zero, List.set_cons_succ]
      refine heldB_take (i := 3) (v := ?_) 48 rfl (by kernel_rfl) (by kernel_rfl) (by kernel_rfl) (by kernel_rfl) (fun _ _ _ h => h) rfl (by assumption) (Or.inl ⟨by rfl, ?_⟩) ?_
      rotate_left
      · intro w hSw; (try dsimp only at hSw); go_simp; (try with_reducible rfl)
      simp only [List.set_cons_zero, List.set_cons_succ]
      refine heldB_take (i := 4) (v := ?_) 49 rfl (by kernel_rfl) (by kernel_rfl) (by kernel_rfl) (by kernel_rfl) (fun _ _ _ h => h) rfl (by assumption) (Or.inl ⟨by rfl, ?_⟩) ?_
      rotate_left
      · intro w hSw; (try dsimp only at hSw); go_simp; (try with_reducible rfl)
      simp only [List.set_cons_zero, List.set_cons_succ]
      refine heldB_take (i := 5) (v := ?_) 50 rfl (by kernel_rfl) (by kernel_rfl) (by kernel_rfl) (by kernel_rfl) (fun _ _ _ h => h) rfl (by assumption) (Or.inl ⟨by rfl, ?_⟩) ?_
      rotate_left
      · intro w hSw; (try dsimp only at hSw); go_simp; (try with_reducible rfl)
      simp only [List.set_cons_zero, List.set_cons_succ]
      refine heldB_take (i := 10) (v := ?_) 55 rfl (by kernel_rfl) (by kernel_rfl) (by kernel_rfl) (by kernel_rfl) (fun _ _ _ h => h) rfl (by assumption) (Or.inl ⟨by rfl, ?_⟩) ?_
      rotate_left
      · intro w hSw; (try dsimp only at hSw); go_simp; (try with_reducible rfl)
      simp only [List.set_cons_zero, List.set_cons_succ]
      refine heldB_one 6 (by kernel_rfl) rfl (fun K hK => ?_)
      go_simp
      refine (sized_any 32 pa pl pc P _ (hBP.drew) (by omega)).mono ?_
      rintro e w7 ⟨v1, rfl, ho1, hb⟩
      obtain ⟨s1, k1, rfl, _⟩ := ho1.bsn (n := 32) (sizedOf_length _ _)
      have hheap7 := (hb.block p hpd).trans hheapd
      have hBR7 := hBRd.below hb
      have hHeld : ((fun w' => w'.cell? ⟨p, 4, none⟩ = some (.slice pa pl pc) ∧ w'.cell? ⟨p, 5, none⟩ = some (.slice ra rl rc))) w7 := ⟨(hb.cell (p := ⟨p, 4, none⟩) hpd).trans hHeld.1, (hb.cell (p := ⟨p, 5, none⟩) hpd).trans hHeld.2⟩
      have hC7 := hCd.step hb
      have hs7 := hb.size
      clear hb
      go_wp2_with fail
      refine hK.out _ _ (fun _ => hHeld) ?_
      clear hK K
      refine heldB_one 11 (by kernel_rfl) rfl (fun K hK => ?_)
      go_simp
      refine (sized_any 32 ra rl rc R _ hBR7 (by omega)).mono ?_
      rintro e w8 ⟨v2, rfl, ho2, hb⟩
      obtain ⟨s2, k2, rfl, _⟩ := ho2.bsn (n := 32) (sizedOf_length _ _)
      have hp7 : p < w7.heap.size := Nat.lt_of_lt_of_le hpd hs7
      have hheap8 := (hb.block p hp7).trans hheap7
      have ho1' := ho1.below hb
      have hHeld : ((fun w' => w'.cell? ⟨p, 4, none⟩ = some (.slice pa pl pc) ∧ w'.cell? ⟨p, 5, none⟩ = some (.slice ra rl rc))) w8 := ⟨(hb.cell (p := ⟨p, 4, none⟩) hp7).trans hHeld.1, (hb.cell (p := ⟨p, 5, none⟩) hp7).trans hHeld.2⟩
      have hC8 := hC7.step hb
      have hs8 := hb.size
      have hsx := six_cells hheap8
      obtain ⟨⟨_, _, _, _, b4, b5⟩, _, _, _, _, g4, g5⟩ := hsx
      clear hb hheap7
      go_wp2_with fail
      refine hK.out _ _ (fun _ => hHeld) ?_
      clear hK K
      refine heldB_free (i := 12) (v := ?_) 57 rfl (by kernel_rfl) (by kernel_rfl) (by kernel_rfl) (by kernel_rfl) (fun _ _ _ h => h) rfl (Or.inl ⟨by rfl, ?_⟩) ?_
      rotate_left
      · intro w hSw; (try dsimp only at hSw); go_simp; (try with_reducible rfl)
      simp only [List.set_cons_zero, List.set_cons_succ]
      refine heldB_take (i := 13) (v := ?_) 58 rfl (by kernel_rfl) (by kernel_rfl) (by kernel_rfl) (by kernel_rfl) (fun _ _ _ h => h) rfl (by assumption) (Or.inl ⟨by rfl, ?_⟩) ?_
      rotate_left
      · intro w hSw; (try dsimp only at hSw); go_simp; (try with_reducible rfl)
      simp only [List.set_cons_zero, List.set_cons_succ]
      refine heldB_one 14 (by kernel_rfl) rfl (fun K hK => ?_)
      go_simp
      refine hK.out _ _ (fun h => by simp at h) ?_
      clear hK K
      refine heldB_free (i := 15) (v := ?_) 59 rfl (by kernel_rfl) (by kernel_rfl) (by kernel_rfl) (by kernel_rfl) (fun _ _ _ h => h) rfl (Or.inl ⟨by rfl, ?_⟩) ?_
      rotate_left
      · intro w hSw; (try dsimp only at hSw); go_simp; (try with_reducible rfl)
      simp only [List.set_cons_zero, List.set_cons_succ]
      refine heldB_free (i := 16) (v := ?_) 60 rfl (by kernel_rfl) (by kernel_rfl) (by kernel_rfl) (by kernel_rfl) (fun _ _ _ h => h) rfl (Or.inl ⟨by rfl, ?_⟩) ?_
      rotate_left
      · intro w hSw; (try dsimp only at hSw); go_simp; (try with_reducible rfl)
      simp only [List.set_cons_zero, List.set_cons_succ]
      refine heldB_one 17 (by kernel_rfl) rfl (fun K hK => ?_)
      go_simp
      refine hK.out _ _ (fun h => by simp at h) ?_
      clear hK K
      refine heldB_done (by kernel_rfl) ?_ _
      have hC9 := (hC8.setCell (p := ⟨p, 4, none⟩) (fun _ => rfl) (.slice s1 32 k1)).setCell (p := ⟨p, 5, none⟩) (fun _ => rfl) (.slice s2 32 k2)
      have hC89 := ((Chg.refl (fun q => q = p) w8).setCell (p := ⟨p, 4, none⟩) (fun _ => rfl) (.slice s1 32 k1)).setCell (p := ⟨p, 5, none⟩) (fun _ => rfl) (.slice s2 32 k2)
      have hheap9 : ((w8.setCell ⟨p, 4, none⟩ (.slice s1 32 k1)).setCell ⟨p, 5, none⟩ (.slice s2 32 k2)).heap[p]? = some (.cells #[.int .i64 I, .int .u64 (F : Int), .int .i64 C, .int .i64 n, .slice s1 32 k1, .slice s2 32 k2] 25 (0, 0)) := cells_set (k := 5) (y := .slice s2 32 k2) (cells_set (k := 4) (y := .slice s1 32 k1) hheap8)
      have hS := HSZ.out
      have ho1 := hC89.own ho1' (fun k hk e => by have := ho1'.ofh k hk; omega)
      have ho2 := hC89.own ho2 (fun k hk e => by have := ho2.ofh k hk; omega)
      have hN9 : Nrm ((w8.setCell ⟨p, 4, none⟩ (.slice s1 32 k1)).setCell ⟨p, 5, none⟩ (.slice s2 32 k2)) p (H + 3) ⟨i, f, c, n, pa, pl, pc, P, ra, rl, rc, R⟩ := by
        refine ⟨s1, k1, s2, k2, ?_, ho1.weaken hS, ho2.weaken (by omega)⟩
        dsimp only
        rw [HI.out.1, HI.out.2.1, HI.out.2.2]
        exact hheap9
      have HN9 := Lib.hid (And.intro hC9 hN9)
      clear hC9 hN9 ho1 ho2 hheap9 hheap8 hC89 hC8 b4 b5 g4 g5 hHeld ho1' hBP hBRd hBR7 hheapd hpd hCd hC7 d4 d5 hs7 hs8 hp7
      go_wp2_with fail
      go_roundw
      case rel =>
        have hC := HN9.out.1
        have hE := HE.out
        have hEb : Below H wr _ := hC.below hE.2 (fun q _ hq => by omega)
        refine ⟨k + 1, by go_num, ⟨hE.1.trans hEb, Nat.le_trans hE.2 hC.size⟩, Nat.le_trans HSW.out hC.size, (hC.block _ (by have := HSW.out; omega) (by omega)).trans HQ2.out, ?_⟩
        rcases HR.out _ hC HN9.out.2 with h | h
        · exact .inr (.inl h)
        · exact .inr (.inr h)
      case measure => simp [intOf]; omega
  case rest =>
  obtain ⟨hN0, hN1, hE, hsz⟩ := hcut
  clear HZ HW0 HXP HXR HYP HYR HX HY
  obtain ⟨i, f, c, n, pa, pc, ra, rc, P, R, hi, hc, hf, q0, hP, hR⟩ := hN0.data
  obtain ⟨i', f', c', n', pa', pc', ra', rc', P', R', hi', hc', hf', q1, hP', hR'⟩ := hN1.data
  have hl0 : H < wc.heap.size := by omega
  have hl1 : H + 1 < wc.heap.size := by omega
  clear hN0 hN1
  unfold hdCells at q0 q1
  have hx := six_cells q0
  have hy := six_cells q1
  go_upto_if 62 with fail
  go_cut [9] (fun _ wx => HRel H w wx)
  case first =>
    obtain ⟨⟨x0, x1, x2, x3, x4, x5⟩, _⟩ := hx
    obtain ⟨⟨y0, y1, y2, y3, y4, y5⟩, g0, g1, g2, g3, g4, g5⟩ := hy
    cases same
    · go_wp2_with fail
      go_meet
      exact ⟨i, f, c, n, pa, pc, ra, rc, P, R, i', f', c', n', pa', pc', ra', rc', P', R', ⟨hi, hc, hf, hi', hc', hf'⟩, q0, q1, ⟨hP, hR, hP', hR'⟩, hE, hsz⟩
    · go_wp2_with fail
      go_meet
      obtain ⟨r0, r1, r2, r3, r4⟩ := put7 q0 q1 hl1 (.int .i64 (i : Int)) (.int .u64 (f : Int)) (.int .i64 (c : Int)) (.int .i64 n) (.slice pa 32 pc) (.slice ra 32 rc) (.int .i64 n') rfl
      have hP2 := r2.bs0 hP (fun h0 ad had e => hP.offHd q1 h0 ad had e)
      have hR2 := r2.bs0 hR (fun h0 ad had e => hR.offHd q1 h0 ad had e)
      exact ⟨i, f, c, n, pa, pc, ra, rc, P, R, i, f, c, n', pa, pc, ra, rc, P, R, ⟨hi, hc, hf, hi, hc, hf⟩, r0, r1, ⟨hP2, hR2, hP2, hR2⟩, ⟨hE.1.trans (r3 hE.2), by omega⟩, by omega⟩
  case rest =>
  clear hx hy q0 q1 hP hR hP' hR' hE hsz hl0 hl1
  obtain ⟨i, f, c, n, pa, pc, ra, rc, P, R, i', f', c', n', pa', pc', ra', rc', P', R', ⟨hi, hc, hf, hi', hc', hf'⟩, q0, q1, ⟨hP, hR, hP', hR'⟩, hE, hsz⟩ := hcut
  unfold hdCells at q0 q1
  obtain ⟨⟨x0, x1, x2, x3, x4, x5⟩, _⟩ := six_cells q0
  obtain ⟨⟨y0, y1, y2, y3, y4, y5⟩, _⟩ := six_cells q1
  clear q0 q1
  have hl0 : H < wc.heap.size := by omega
  have hl1 : H + 1 < wc.heap.size := by omega
  clear hsz
  go_upto_region 13 with fail
  go_cut [10] (fun s wx => s = .bool (decide (i = i' ∧ f = f' ∧ c = c' ∧ P = P' ∧ R = R')) ∧ wx = wc)
  case first =>
    have s1 := run_string hP
    have s2 := run_string hP'
    have s3 := run_string hR
    have s4 := run_string hR'
    clear hP hR hP' hR' hE
    by_cases h1 : i = i'
    · subst h1
      by_cases h2 : f = f'
      · subst h2
        by_cases h3 : c = c'
        · subst h3
          by_cases h4 : P = P'
          · subst h4
            by_cases h5 : R = R'
            · subst h5
              go_wp2_with fail
              go_meet
              exact ⟨by simp, rfl⟩
            · have e5 : ((strOf R).toList == (strOf R').toList) = false := by rw [strOf_toList, strOf_toList]; simpa using h5
              have H5 := Lib.hid h5
              clear h5
              go_wp2_with fail
              go_meet
              exact ⟨by simp [H5.out], rfl⟩
          · have e5 : ((strOf P).toList == (strOf P').toList) = false := by rw [strOf_toList, strOf_toList]; simpa using h4
            have H5 := Lib.hid h4
            clear h4
            go_wp2_with fail
            go_meet
            exact ⟨by simp [H5.out], rfl⟩
        · have e5 : ((c : Int) == (c' : Int)) = false := by simp; omega
          have H5 := Lib.hid h3
          clear h3
          go_wp2_with fail
          go_meet
          exact ⟨by simp [H5.out], rfl⟩
      · have e5 : ((f : Int) == (f' : Int)) = false := by simp; omega
        have H5 := Lib.hid h2
        clear h2
        go_wp2_with fail
        go_meet
        exact ⟨by simp [H5.out], rfl⟩
    · have e5 : ((i : Int) == (i' : Int)) = false := by simp; omega
      have H5 := Lib.hid h1
      clear h1
      go_wp2_with fail
      go_meet
      exact ⟨by simp [H5.out], rfl⟩
  case rest =>
  obtain ⟨rfl, rfl⟩ := hcut
  have hXl := hdRow_length i f c P R hP.1 hR.1
  have hYl := hdRow_length i' f' c' P' R' hP'.1 hR'.1
  have hinj := hdRow_inj (R := R) (R' := R') hi hc hf hi' hc' hf' hP.1 hP'.1
  obtain ⟨sl, hsl⟩ : ∃ sl, ((strOf (sha (hdRow i f c P R))).toList == (strOf (sha (hdRow i' f' c' P' R'))).toList) = sl := ⟨_, rfl⟩
  have hsd : sl = decide (sha (hdRow i f c P R) = sha (hdRow i' f' c' P' R')) := by rw [← hsl, strOf_toList, strOf_toList, Bool.eq_iff_iff]; simp
  obtain ⟨fl, hfl⟩ : ∃ fl, fl = decide (i = i' ∧ f = f' ∧ c = c' ∧ P = P' ∧ R = R') := ⟨_, rfl⟩
  have hfX : (i = i' ∧ f = f' ∧ c = c' ∧ P = P' ∧ R = R') ↔ hdRow i f c P R = hdRow i' f' c' P' R' := ⟨fun ⟨h1, h2, h3, h4, h5⟩ => by rw [h1, h2, h3, h4, h5], hinj⟩
  have hfl2 : fl = decide (hdRow i f c P R = hdRow i' f' c' P' R') := hfl.trans (by rw [Bool.eq_iff_iff]; simpa using hfX)
  rw [← hfl]
  clear hfl
  have hfl := hfl2
  clear hfl2
  have HFL := Lib.hid hfl
  have HSD := Lib.hid hsd
  clear hfX hinj hfl hsd
  go_upto_region 14 with fail
  obtain ⟨wd, hwd⟩ : ∃ wd, wd = wc.drew := ⟨_, rfl⟩
  have hb : Below wc.heap.size wc wd := by rw [hwd]; exact (Below.refl _ _).drew
  have x0 := (hb.cell (p := ⟨H, 0, none⟩) hl0).trans x0
  have x1 := (hb.cell (p := ⟨H, 1, none⟩) hl0).trans x1
  have x2 := (hb.cell (p := ⟨H, 2, none⟩) hl0).trans x2
  have x3 := (hb.cell (p := ⟨H, 3, none⟩) hl0).trans x3
  have x4 := (hb.cell (p := ⟨H, 4, none⟩) hl0).trans x4
  have x5 := (hb.cell (p := ⟨H, 5, none⟩) hl0).trans x5
  have hl0 := Nat.lt_of_lt_of_le hl0 hb.size
  have y0 := (hb.cell (p := ⟨H + 1, 0, none⟩) hl1).trans y0
  have y1 := (hb.cell (p := ⟨H + 1, 1, none⟩) hl1).trans y1
  have y2 := (hb.cell (p := ⟨H + 1, 2, none⟩) hl1).trans y2
  have y3 := (hb.cell (p := ⟨H + 1, 3, none⟩) hl1).trans y3
  have y4 := (hb.cell (p := ⟨H + 1, 4, none⟩) hl1).trans y4
  have y5 := (hb.cell (p := ⟨H + 1, 5, none⟩) hl1).trans y5
  have hl1 := Nat.lt_of_lt_of_le hl1 hb.size
  have hP := hP.below hb
  have hR := hR.below hb
  have hP' := hP'.below hb
  have hR' := hR'.below hb
  have hE := hE.step hb
  clear hb
  refine held_start (by kernel_rfl) (fun hHeld => ?_)
  rw [← hwd] at hHeld ⊢
  clear hwd
  refine held_take (i := 0) (v := ?_) 105 rfl (by kernel_rfl) (by kernel_rfl) (by kernel_rfl) (fun _ _ _ h => h) rfl (by assumption) (Or.inl ⟨by rfl, ?_⟩) ?_
  rotate_left
  · intro w hSw; obtain ⟨hc, hf⟩ := bcell hSw; go_simp; (try with_reducible rfl)
  simp only [List.set_cons_zero, List.set_cons_succ]
  refine held_take (i := 3) (v := ?_) 108 rfl (by kernel_rfl) (by kernel_rfl) (by kernel_rfl) (fun _ _ _ h => h) rfl (by assumption) (Or.inl ⟨by rfl, ?_⟩) ?_
  rotate_left
  · intro w hSw; obtain ⟨hc, hf⟩ := bcell hSw; go_simp; (try with_reducible rfl)
  simp only [List.set_cons_zero, List.set_cons_succ]
  refine wpAnyH_ready (rs := [1]) (by kernel_rfl) (by simp) ?_
  refine AllReadyH.cons rfl (fun K hK => ?_) AllReadyH.nil
  go_simp
  refine (segseal_any i f c n pa ra pc rc P R _ hi hc hP hR).mono ?_
  rintro e w1 ⟨v1, rfl, ho1, hb⟩
  have x0 := (hb.cell (p := ⟨H, 0, none⟩) hl0).trans x0
  have x1 := (hb.cell (p := ⟨H, 1, none⟩) hl0).trans x1
  have x2 := (hb.cell (p := ⟨H, 2, none⟩) hl0).trans x2
  have x3 := (hb.cell (p := ⟨H, 3, none⟩) hl0).trans x3
  have x4 := (hb.cell (p := ⟨H, 4, none⟩) hl0).trans x4
  have x5 := (hb.cell (p := ⟨H, 5, none⟩) hl0).trans x5
  have hl0 := Nat.lt_of_lt_of_le hl0 hb.size
  have y0 := (hb.cell (p := ⟨H + 1, 0, none⟩) hl1).trans y0
  have y1 := (hb.cell (p := ⟨H + 1, 1, none⟩) hl1).trans y1
  have y2 := (hb.cell (p := ⟨H + 1, 2, none⟩) hl1).trans y2
  have y3 := (hb.cell (p := ⟨H + 1, 3, none⟩) hl1).trans y3
  have y4 := (hb.cell (p := ⟨H + 1, 4, none⟩) hl1).trans y4
  have y5 := (hb.cell (p := ⟨H + 1, 5, none⟩) hl1).trans y5
  have hl1 := Nat.lt_of_lt_of_le hl1 hb.size
  have hP := hP.below hb
  have hR := hR.below hb
  have hP' := hP'.below hb
  have hR' := hR'.below hb
  have hE := hE.step hb
  obtain ⟨s1, k1, rfl, hS1⟩ := ho1.bsn (n := 32) (sha_length _)
  clear ho1
  go_wp2_with fail
  refine hK.out _ _ hb (fun _ => held_next hb (fun hHeld2 => ?_))
  clear hK hHeld hb
  have hHeld := hHeld2
  clear hHeld2 K
  refine held_take (i := 2) (v := ?_) 107 rfl (by kernel_rfl) (by kernel_rfl) (by kernel_rfl) (fun _ _ _ h => h) rfl (by assumption) (Or.inl ⟨by rfl, ?_⟩) ?_
  rotate_left
  · intro w hSw; have hs := run_string (hS1.below hSw); go_simp; (try with_reducible rfl)
  simp only [List.set_cons_zero, List.set_cons_succ]
  refine wpAnyH_ready (rs := [4]) (by kernel_rfl) (by simp) ?_
  refine AllReadyH.cons rfl (fun K hK => ?_) AllReadyH.nil
  go_simp
  refine (segseal_any i' f' c' n' pa' ra' pc' rc' P' R' _ hi' hc' hP' hR').mono ?_
  rintro e w2 ⟨v2, rfl, ho2, hb⟩
  have x0 := (hb.cell (p := ⟨H, 0, none⟩) hl0).trans x0
  have x1 := (hb.cell (p := ⟨H, 1, none⟩) hl0).trans x1
  have x2 := (hb.cell (p := ⟨H, 2, none⟩) hl0).trans x2
  have x3 := (hb.cell (p := ⟨H, 3, none⟩) hl0).trans x3
  have x4 := (hb.cell (p := ⟨H, 4, none⟩) hl0).trans x4
  have x5 := (hb.cell (p := ⟨H, 5, none⟩) hl0).trans x5
  have hl0 := Nat.lt_of_lt_of_le hl0 hb.size
  have y0 := (hb.cell (p := ⟨H + 1, 0, none⟩) hl1).trans y0
  have y1 := (hb.cell (p := ⟨H + 1, 1, none⟩) hl1).trans y1
  have y2 := (hb.cell (p := ⟨H + 1, 2, none⟩) hl1).trans y2
  have y3 := (hb.cell (p := ⟨H + 1, 3, none⟩) hl1).trans y3
  have y4 := (hb.cell (p := ⟨H + 1, 4, none⟩) hl1).trans y4
  have y5 := (hb.cell (p := ⟨H + 1, 5, none⟩) hl1).trans y5
  have hl1 := Nat.lt_of_lt_of_le hl1 hb.size
  have hP := hP.below hb
  have hR := hR.below hb
  have hP' := hP'.below hb
  have hR' := hR'.below hb
  have hE := hE.step hb
  obtain ⟨s2, k2, rfl, hS2⟩ := ho2.bsn (n := 32) (sha_length _)
  have hS1 := hS1.below hb
  clear ho2
  go_wp2_with fail
  refine hK.out _ _ hb (fun _ => held_next hb (fun hHeld2 => ?_))
  clear hK hHeld hb
  have hHeld := hHeld2
  clear hHeld2 K
  refine held_take (i := 5) (v := ?_) 110 rfl (by kernel_rfl) (by kernel_rfl) (by kernel_rfl) (fun _ _ _ h => h) rfl (by assumption) (Or.inl ⟨by rfl, ?_⟩) ?_
  rotate_left
  · intro w hSw; have hs := run_string (hS2.below hSw); go_simp; (try with_reducible rfl)
  simp only [List.set_cons_zero, List.set_cons_succ]
  refine held_take (i := 6) (v := ?_) 111 rfl (by kernel_rfl) (by kernel_rfl) (by kernel_rfl) (fun _ _ _ h => h) rfl (by assumption) (Or.inl ⟨by rfl, ?_⟩) ?_
  rotate_left
  · intro w hSw; go_simp; (try with_reducible rfl)
  simp only [List.set_cons_zero, List.set_cons_succ]
  refine held_take (i := 7) (v := ?_) 11 rfl (by kernel_rfl) (by kernel_rfl) (by kernel_rfl) (fun _ _ _ h => h) rfl (by assumption) (Or.inl ⟨by rfl, ?_⟩) ?_
  rotate_left
  · intro w hSw; go_simp; (try with_reducible rfl)
  simp only [List.set_cons_zero, List.set_cons_succ]
  refine wpAnyH_done (by kernel_rfl) ?_ _
  go_wp2_with fail
  refine (heads_any i f c i' f' c' n n' pa ra pa' ra' pc rc pc' rc' P R P' R' _ hi hc hf hi' hc' hf' hP hR hP' hR').mono ?_
  rintro e w3 ⟨zx, zy, zb, rfl, hcl, hb⟩
  have hE := hE.step hb
  clear hb hP hR hP' hR' hS1 hS2 x0 x1 x2 x3 x4 x5 y0 y1 y2 y3 y4 y5 hl0 hl1 hsl
  generalize hdRow i f c P R = X at *
  generalize hdRow i' f' c' P' R' = Y at *
  rcases hcl with ⟨⟨hXY, hS⟩, ⟨b1, k1, b2, k2, rfl, rfl, hB1, hB2⟩, rfl⟩ | ⟨hno, rfl, rfl, rfl⟩
  · have hfl := HFL.out
    rw [decide_eq_false hXY] at hfl
    have hsd := HSD.out
    rw [decide_eq_true hS] at hsd
    subst hfl hsd
    have HLC := Lib.hid (lawclash_any b1 b2 77 77 k1 k2 X Y w3 hB1 hB2 (by omega) (by omega) hXY)
    rw [decide_eq_true hS] at HLC
    clear hXY hS HFL HSD hB1 hB2
    go_wp2_with fail
    refine HLC.out.mono ?_
    rintro e w4 ⟨rfl, hb⟩
    have hE := hE.step hb
    clear hb HLC
    go_wp2_with fail
    refine (extr_known _).mono ?_
    rintro e w5 ⟨rfl, hb⟩
    have hE := hE.step hb
    go_wp2_with fail
    go_ret
    exact ⟨rfl, by rw [← HH.out]; exact hE.1⟩
  · by_cases hXY : X = Y
    · have hfl := HFL.out
      rw [decide_eq_true hXY] at hfl
      have hsd := HSD.out
      rw [decide_eq_true (by rw [hXY])] at hsd
      subst hfl hsd
      clear hno HFL HSD hXY
      go_wp2_with fail
      refine (extr_known _).mono ?_
      rintro e w5 ⟨rfl, hb⟩
      have hE := hE.step hb
      go_wp2_with fail
      go_ret
      exact ⟨rfl, by rw [← HH.out]; exact hE.1⟩
    · have hfl := HFL.out
      rw [decide_eq_false hXY] at hfl
      have hsd := HSD.out
      rw [decide_eq_false (fun hs => hno ⟨hXY, hs⟩)] at hsd
      subst hfl hsd
      clear hno HFL HSD hXY
      go_wp2_with fail
      refine (extr_known _).mono ?_
      rintro e w5 ⟨rfl, hb⟩
      have hE := hE.step hb
      go_wp2_with fail
      go_ret
      exact ⟨rfl, by rw [← HH.out]; exact hE.1⟩
theorem ExtractHeads_walk (v0 v1 v2 : Value) (w : World) (h0 : Arg Try.prog w 25 v0) (h1 : Arg Try.prog w 25 v1) (h2 : Arg Try.prog w 4 v2) :
    Calls Try.prog 3 #[v0, v1, v2] w fun e w' => e = .returned (.bool true) ∧ Below w.heap.size w w' := by
  obtain ⟨x, rfl, hx, hxP, hxR⟩ := h0.head
  obtain ⟨y, rfl, hy, hyP, hyR⟩ := h1.head
  obtain ⟨same, rfl⟩ := h2.bool Try.underlying4
  exact eheads_any x y same w hx hy hxP hxR hyP hyR
end Go.Proofs.Ytdglhonogopciaa
