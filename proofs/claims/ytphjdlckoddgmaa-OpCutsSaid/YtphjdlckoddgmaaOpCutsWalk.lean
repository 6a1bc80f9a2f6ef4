/- The walk of OpCuts. -/
import Derived.Test.YtphjdlckoddgmaaOpTame2
import Derived.Test.YtphjdlckoddgmaaOpArg
import Derived.Test.YtphjdlckoddgmaaOpKeep
import Derived.Test.YtphjdlckoddgmaaRpDec
import Derived.Test.YtphjdlckoddgmaaRpArg
import Derived.Test.YtphjdlckoddgmaaTools
import Derived.Test.YtphjdlckoddgmaaHeldB
import Derived.Deep.DeepCutAuto
namespace Go.Proofs.Ytphjdlckoddgmaa
open Go.RowKit

theorem tame_right (a : Ask) (p t d : Nat) (fd at_ n sn : Int) (hp : p ≤ 10) (ht : t ≤ 10) (hd : d ≤ 40) (f1 : 0 ≤ fd) (f2 : fd ≤ 3) (a1 : 0 ≤ at_) (a2 : at_ ≤ 50) (n1 : 0 ≤ n) (n2 : n ≤ 60) (s1 : 0 ≤ sn) (s2 : sn ≤ 4) : rightN a p t d fd at_ n sn = 0 := by
  unfold rightN shortI
  rw [if_neg, if_neg]
  · rintro (⟨_, h⟩ | ⟨_, h | h⟩ | ⟨_, h⟩) <;> (simp at h; omega)
  · rintro (⟨_, h⟩ | ⟨_, h⟩ | ⟨_, h⟩) <;> omega
theorem asks_of {k : Int} (h1 : 1 ≤ k) (h2 : k ≤ 17) : ∃ a, asksOf k = some a := by
  rcases kinds (k := k) (by omega) with rfl | rfl | rfl | rfl | rfl | rfl | rfl | rfl | rfl | rfl | rfl | rfl | rfl | rfl | rfl | rfl | rfl <;> exact ⟨_, rfl⟩
theorem far9b {w : World} {b Z : Nat} {o : Option Obj} {v0 v1 v2 v3 v4 v5 v6 v7 v8 : Value} (h : w.heap[b]? = o) (hb : b ≠ Z) :
    (((((((((w.setCell ⟨Z, 0, none⟩ v0).setCell ⟨Z, 1, none⟩ v1).setCell ⟨Z, 2, none⟩ v2).setCell ⟨Z, 3, none⟩ v3).setCell ⟨Z, 4, none⟩ v4).setCell ⟨Z, 5, none⟩ v5).setCell ⟨Z, 6, none⟩ v6).setCell ⟨Z, 7, none⟩ v7).setCell ⟨Z, 8, none⟩ v8).heap[b]? = o :=
  cells_far (cells_far (cells_far (cells_far (cells_far (cells_far (cells_far (cells_far (cells_far h hb) hb) hb) hb) hb) hb) hb) hb) hb
theorem put10 {w : World} {b : Nat} {t : TypeId} {x0 x1 x2 x3 x4 x5 x6 x7 x8 x9 v0 v1 v2 v3 v4 v5 v6 v7 v8 v9 : Value} (h : w.heap[b]? = some (.cells #[x0, x1, x2, x3, x4, x5, x6, x7, x8, x9] t (0, 0))) :
    ((((((((((w.setCell ⟨b, 0, none⟩ v0).setCell ⟨b, 1, none⟩ v1).setCell ⟨b, 2, none⟩ v2).setCell ⟨b, 3, none⟩ v3).setCell ⟨b, 4, none⟩ v4).setCell ⟨b, 5, none⟩ v5).setCell ⟨b, 6, none⟩ v6).setCell ⟨b, 7, none⟩ v7).setCell ⟨b, 8, none⟩ v8).setCell ⟨b, 9, none⟩ v9).heap[b]? = some (.cells #[v0, v1, v2, v3, v4, v5, v6, v7, v8, v9] t (0, 0)) := by
  have h0 : (w.setCell ⟨b, 0, none⟩ v0).heap[b]? = some (.cells #[v0, x1, x2, x3, x4, x5, x6, x7, x8, x9] t (0, 0)) := cells_set h
  have h1 : ((w.setCell ⟨b, 0, none⟩ v0).setCell ⟨b, 1, none⟩ v1).heap[b]? = some (.cells #[v0, v1, x2, x3, x4, x5, x6, x7, x8, x9] t (0, 0)) := cells_set h0
  have h2 : (((w.setCell ⟨b, 0, none⟩ v0).setCell ⟨b, 1, none⟩ v1).setCell ⟨b, 2, none⟩ v2).heap[b]? = some (.cells #[v0, v1, v2, x3, x4, x5, x6, x7, x8, x9] t (0, 0)) := cells_set h1
  have h3 : ((((w.setCell ⟨b, 0, none⟩ v0).setCell ⟨b, 1, none⟩ v1).setCell ⟨b, 2, none⟩ v2).setCell ⟨b, 3, none⟩ v3).heap[b]? = some (.cells #[v0, v1, v2, v3, x4, x5, x6, x7, x8, x9] t (0, 0)) := cells_set h2
  have h4 : (((((w.setCell ⟨b, 0, none⟩ v0).setCell ⟨b, 1, none⟩ v1).setCell ⟨b, 2, none⟩ v2).setCell ⟨b, 3, none⟩ v3).setCell ⟨b, 4, none⟩ v4).heap[b]? = some (.cells #[v0, v1, v2, v3, v4, x5, x6, x7, x8, x9] t (0, 0)) := cells_set h3
  have h5 : ((((((w.setCell ⟨b, 0, none⟩ v0).setCell ⟨b, 1, none⟩ v1).setCell ⟨b, 2, none⟩ v2).setCell ⟨b, 3, none⟩ v3).setCell ⟨b, 4, none⟩ v4).setCell ⟨b, 5, none⟩ v5).heap[b]? = some (.cells #[v0, v1, v2, v3, v4, v5, x6, x7, x8, x9] t (0, 0)) := cells_set h4
  have h6 : (((((((w.setCell ⟨b, 0, none⟩ v0).setCell ⟨b, 1, none⟩ v1).setCell ⟨b, 2, none⟩ v2).setCell ⟨b, 3, none⟩ v3).setCell ⟨b, 4, none⟩ v4).setCell ⟨b, 5, none⟩ v5).setCell ⟨b, 6, none⟩ v6).heap[b]? = some (.cells #[v0, v1, v2, v3, v4, v5, v6, x7, x8, x9] t (0, 0)) := cells_set h5
  have h7 : ((((((((w.setCell ⟨b, 0, none⟩ v0).setCell ⟨b, 1, none⟩ v1).setCell ⟨b, 2, none⟩ v2).setCell ⟨b, 3, none⟩ v3).setCell ⟨b, 4, none⟩ v4).setCell ⟨b, 5, none⟩ v5).setCell ⟨b, 6, none⟩ v6).setCell ⟨b, 7, none⟩ v7).heap[b]? = some (.cells #[v0, v1, v2, v3, v4, v5, v6, v7, x8, x9] t (0, 0)) := cells_set h6
  have h8 : (((((((((w.setCell ⟨b, 0, none⟩ v0).setCell ⟨b, 1, none⟩ v1).setCell ⟨b, 2, none⟩ v2).setCell ⟨b, 3, none⟩ v3).setCell ⟨b, 4, none⟩ v4).setCell ⟨b, 5, none⟩ v5).setCell ⟨b, 6, none⟩ v6).setCell ⟨b, 7, none⟩ v7).setCell ⟨b, 8, none⟩ v8).heap[b]? = some (.cells #[v0, v1, v2, v3, v4, v5, v6, v7, v8, x9] t (0, 0)) := cells_set h7
  exact cells_set h8
theorem ext10 {B : Nat} {a w : World} {b : Nat} (h : Ext B a w) (hb : B ≤ b) (v0 v1 v2 v3 v4 v5 v6 v7 v8 v9 : Value) : Ext B a ((((((((((w.setCell ⟨b, 0, none⟩ v0).setCell ⟨b, 1, none⟩ v1).setCell ⟨b, 2, none⟩ v2).setCell ⟨b, 3, none⟩ v3).setCell ⟨b, 4, none⟩ v4).setCell ⟨b, 5, none⟩ v5).setCell ⟨b, 6, none⟩ v6).setCell ⟨b, 7, none⟩ v7).setCell ⟨b, 8, none⟩ v8).setCell ⟨b, 9, none⟩ v9) :=
  (((((((((h.setCell (p := ⟨b, 0, none⟩) hb _).setCell (p := ⟨b, 1, none⟩) hb _).setCell (p := ⟨b, 2, none⟩) hb _).setCell (p := ⟨b, 3, none⟩) hb _).setCell (p := ⟨b, 4, none⟩) hb _).setCell (p := ⟨b, 5, none⟩) hb _).setCell (p := ⟨b, 6, none⟩) hb _).setCell (p := ⟨b, 7, none⟩) hb _).setCell (p := ⟨b, 8, none⟩) hb _).setCell (p := ⟨b, 9, none⟩) hb _
theorem bs10 {w : World} {b : Nat} {a : Option Addr} {len cap : Nat} {M : List UInt8} (h : Bs w a len cap M) (hb : ∀ ad, a = some ad → ad.block ≠ b) (v0 v1 v2 v3 v4 v5 v6 v7 v8 v9 : Value) : Bs ((((((((((w.setCell ⟨b, 0, none⟩ v0).setCell ⟨b, 1, none⟩ v1).setCell ⟨b, 2, none⟩ v2).setCell ⟨b, 3, none⟩ v3).setCell ⟨b, 4, none⟩ v4).setCell ⟨b, 5, none⟩ v5).setCell ⟨b, 6, none⟩ v6).setCell ⟨b, 7, none⟩ v7).setCell ⟨b, 8, none⟩ v8).setCell ⟨b, 9, none⟩ v9) a len cap M :=
  Chg.bs (S := fun q => q = b) (((((((((((Chg.refl (fun q => q = b) w).setCell (p := ⟨b, 0, none⟩) (fun _ => rfl) _).setCell (p := ⟨b, 1, none⟩) (fun _ => rfl) _).setCell (p := ⟨b, 2, none⟩) (fun _ => rfl) _).setCell (p := ⟨b, 3, none⟩) (fun _ => rfl) _).setCell (p := ⟨b, 4, none⟩) (fun _ => rfl) _).setCell (p := ⟨b, 5, none⟩) (fun _ => rfl) _).setCell (p := ⟨b, 6, none⟩) (fun _ => rfl) _).setCell (p := ⟨b, 7, none⟩) (fun _ => rfl) _).setCell (p := ⟨b, 8, none⟩) (fun _ => rfl) _).setCell (p := ⟨b, 9, none⟩) (fun _ => rfl) _) h hb
theorem ext9b {B : Nat} {a w : World} {b : Nat} (h : Ext B a w) (hb : B ≤ b) (v0 v1 v2 v3 v4 v5 v6 v7 v8 : Value) :
    Ext B a (((((((((w.setCell ⟨b, 0, none⟩ v0).setCell ⟨b, 1, none⟩ v1).setCell ⟨b, 2, none⟩ v2).setCell ⟨b, 3, none⟩ v3).setCell ⟨b, 4, none⟩ v4).setCell ⟨b, 5, none⟩ v5).setCell ⟨b, 6, none⟩ v6).setCell ⟨b, 7, none⟩ v7).setCell ⟨b, 8, none⟩ v8) :=
  ((((((((h.setCell (p := ⟨b, 0, none⟩) hb _).setCell (p := ⟨b, 1, none⟩) hb _).setCell (p := ⟨b, 2, none⟩) hb _).setCell (p := ⟨b, 3, none⟩) hb _).setCell (p := ⟨b, 4, none⟩) hb _).setCell (p := ⟨b, 5, none⟩) hb _).setCell (p := ⟨b, 6, none⟩) hb _).setCell (p := ⟨b, 7, none⟩) hb _).setCell (p := ⟨b, 8, none⟩) hb _

set_option maxHeartbeats 8000000 in
set_option maxRecDepth 100000 in
theorem OpCuts_walk (v0 : Value) (v1 : Value) (v2 : Value) (v3 : Value) (w : World) (h0 : Arg Try.prog w 25 v0) (h1 : Arg Try.prog w 45 v1) (h2 : Arg Try.prog w 3 v2) (h3 : Arg Try.prog w 23 v3) :
    Calls Try.prog 8 #[v0, v1, v2, v3] w fun e w' => e = .returned (.bool true) ∧ Below w.heap.size w w' := by
  obtain ⟨k, ps, ts, fd, at_, n, til, sn, da, dl, dc, ds, rfl, htil, hB⟩ := h0.op
  obtain ⟨er, n3, ra, rl, rc, rs, na, nl, nc, ls, nd, rfl, hBr, hS, hndt, _, _⟩ := h1.reply
  obtain ⟨icut, rfl, _⟩ := h2.int Try.underlying3
  obtain ⟨ax, lx, cx, xs, rfl, hBx⟩ := h3.bytes Try.underlying23 Try.underlying5 (by kernel_rfl)
  clear h0 h1 h2 h3 hndt hS
  have hlc := hB.2.1
  have hlr := hBr.2.1
  have hlcx := hBx.2.1
  have HLN := Lib.hid (And.intro hB.1 hBr.1)
  obtain ⟨H, hH⟩ : ∃ H, H = w.heap.size := ⟨_, rfl⟩
  have HH := Lib.hid hH
  have hD : ∀ W, Ext H w W → Bs W da dl dc ds := fun W hb => hb.bs hH.symm hB
  have hDr : ∀ W, Ext H w W → Bs W ra rl rc rs := fun W hb => hb.bs hH.symm hBr
  have hDx : ∀ W, Ext H w W → Bs W ax lx cx xs := fun W hb => hb.bs hH.symm hBx
  have HBA := Lib.hid (And.intro hD (And.intro hDr hDx))
  clear hD hDr hDx hB hBr hBx
  obtain ⟨wA, hwA⟩ : ∃ W, W = w.alloc (.cells (ovCells k (strOf ps) (strOf ts) fd at_ n til sn da dl dc) 25) := ⟨_, rfl⟩
  obtain ⟨wC, hwC⟩ : ∃ W, W = wA.alloc (.cells (rpCells er n3 ra rl rc na nl nc nd) 45) := ⟨_, rfl⟩
  have hsA : wA.heap.size = H + 1 := by rw [hwA, hH]; simp
  have hoA : wA.heap[H]? = some (.cells (ovCells k (strOf ps) (strOf ts) fd at_ n til sn da dl dc) 25 (0, 0)) := by rw [hwA, hH]; exact heap_alloc_new w _
  have hoC : wC.heap[H]? = some (.cells (ovCells k (strOf ps) (strOf ts) fd at_ n til sn da dl dc) 25 (0, 0)) := by rw [hwC]; exact (Below.heap_alloc wA _ _ (lt_of_heap hoA)).trans hoA
  have hrC : wC.heap[H + 1]? = some (.cells (rpCells er n3 ra rl rc na nl nc nd) 45 (0, 0)) := by rw [hwC, ← hsA]; exact heap_alloc_new wA _
  have hEC : Ext H w wC := by
    rw [hwC, hwA, hH]
    exact ((Ext.refl w).alloc _).alloc _
  have HW := Lib.hid (And.intro hwA hwC)
  have HT := Lib.hid (fun w => tame_any k (strOf ps) (strOf ts) fd at_ n til sn da dl dc hlc w)
  have hm40 : min dl 40 ≤ dl := Nat.min_le_left _ _
  have hm40' : min dl 40 ≤ 40 := Nat.min_le_right _ _
  have hf := within_bd fd 0 3 (by decide)
  have ha := within_bd at_ 0 50 (by decide)
  have hn := within_bd n 0 60 (by decide)
  have ht18 : til % 12 < 18446744073709551616 := by omega
  unfold tameCells at HT
  generalize min dl 40 = m4 at *
  generalize within fd 0 3 = fd' at *
  generalize within at_ 0 50 = at' at *
  generalize within n 0 60 = n' at *
  generalize til % 12 = til' at *
  have HNUM := Lib.hid (And.intro hf (And.intro ha (And.intro hn ht18)))
  unfold ovCells at *
  unfold rpCells at *
  clear hwA hwC hsA hoA hf ha hn ht18
  go_enter Try.func8, Try.ntmps8
  go_upto_region 1 with fail
  rw [← HW.out.1, ← HW.out.2, ← hH]
  clear hH HW
  have HO := Lib.hid hoC
  have HR := Lib.hid hrC
  have Dc := cells_at hoC
  (try unfold ovCells at Dc)
  have c0 := Dc 0; have c1 := Dc 1; have c2 := Dc 2; have c3 := Dc 3; have c4 := Dc 4; have c5 := Dc 5; have c6 := Dc 6; have c7 := Dc 7; have c8 := Dc 8
  simp only [List.getElem?_toArray, List.getElem?_cons_zero, List.getElem?_cons_succ] at c0 c1 c2 c3 c4 c5 c6 c7 c8
  clear Dc
  clear hoC hrC
  go_wp2_with fail
  refine (HT.out _).mono ?_
  rintro e w2 ⟨⟨p1, p2, sn', rfl, hp1, hp2, hs1, hs2⟩, hb2⟩
  have hE2 := hEC.step hb2
  have hoC := (hb2.block _ (lt_of_heap HO.out)).trans HO.out
  have hrC := (hb2.block _ (lt_of_heap HR.out)).trans HR.out
  have hne : H + 1 ≠ H := by omega
  have hoD := store9 (v0 := .int .i64 k) (v1 := .string (strOf p1)) (v2 := .string (strOf p2)) (v3 := .int .i64 fd') (v4 := .int .i64 at') (v5 := .int .i64 n') (v6 := .int .u64 (til' : Int)) (v7 := .int .i64 sn') (v8 := .slice da m4 dc) hoC
  have hrD := far9b (Z := H) (v0 := .int .i64 k) (v1 := .string (strOf p1)) (v2 := .string (strOf p2)) (v3 := .int .i64 fd') (v4 := .int .i64 at') (v5 := .int .i64 n') (v6 := .int .u64 (til' : Int)) (v7 := .int .i64 sn') (v8 := .slice da m4 dc) hrC hne
  have hED := ext9b hE2 (Nat.le_refl H) (.int .i64 k) (.string (strOf p1)) (.string (strOf p2)) (.int .i64 fd') (.int .i64 at') (.int .i64 n') (.int .u64 (til' : Int)) (.int .i64 sn') (.slice da m4 dc)
  clear c0 c1 c2 c3 c4 c5 c6 c7 c8 HO HR HT hEC hb2
  have Dc := cells_at hoC
  (try unfold ovCells at Dc)
  have c0 := Dc 0; have c1 := Dc 1; have c2 := Dc 2; have c3 := Dc 3; have c4 := Dc 4; have c5 := Dc 5; have c6 := Dc 6; have c7 := Dc 7; have c8 := Dc 8
  simp only [List.getElem?_toArray, List.getElem?_cons_zero, List.getElem?_cons_succ] at c0 c1 c2 c3 c4 c5 c6 c7 c8
  clear Dc
  have f := frozen_at hoC
  have f0 := f 0; have f1 := f 1; have f2 := f 2; have f3 := f 3; have f4 := f 4; have f5 := f 5; have f6 := f 6; have f7 := f 7; have f8 := f 8
  clear f hoC hrC hE2
  go_upto_region 2 with fail
  generalize World.setCell _ ⟨H, 8, none⟩ _ = w3 at *
  clear c0 c1 c2 c3 c4 c5 c6 c7 c8 f0 f1 f2 f3 f4 f5 f6 f7 f8
  have c0 := cells_at hoD 0
  have f0 := frozen_at hoD 0
  simp only [List.getElem?_toArray, List.getElem?_cons_zero] at c0
  have HO := Lib.hid hoD
  have HR := Lib.hid hrD
  clear hoD hrD
  go_wp2_with fail
  refine (within_any k 0 16 _ (by decide) (by decide) (by decide)).mono ?_
  rintro e w4 ⟨rfl, rfl⟩
  have hk := within_bd k 0 16 (by decide)
  generalize within k 0 16 = kk at *
  obtain ⟨hk1, hk2⟩ := hk
  have hoE := cells_set (k := 0) (y := .int .i64 (1 + kk)) HO.out
  have hrE := cells_far (k := 0) (y := .int .i64 (1 + kk)) HR.out hne
  have hEE := hED.setCell (p := ⟨H, 0, none⟩) (Nat.le_refl H) (.int .i64 (1 + kk))
  go_upto_region 3 with fail
  generalize World.setCell _ ⟨H, 0, none⟩ _ = w4 at *
  obtain ⟨ky, hky⟩ : ∃ ky, ky = 1 + kk := ⟨_, rfl⟩
  rw [← hky] at hoE ⊢
  obtain ⟨a, hka⟩ := asks_of (k := ky) (by omega) (by omega)
  clear HO HR c0 f0 hED
  have hoE : w4.heap[H]? = some (.cells (ovCells ky (strOf p1) (strOf p2) fd' at' n' til' sn' da m4 dc) 25 (0, 0)) := hoE
  have hDo := (HBA.out.1 _ hEE).take hm40
  have hdl4 : (ds.take m4).length = m4 := hDo.1
  obtain ⟨⟨b1, b2⟩, ⟨b3, b4⟩, ⟨b5, b6⟩, b7⟩ := HNUM.out
  have hra : Ov.right ⟨ky, p1, p2, fd', at', n', til', sn', ds.take m4⟩ a = 0 := tame_right a _ _ _ _ _ _ _ hp1 hp2 (by show (ds.take m4).length ≤ 40; omega) b1 b2 b3 b4 b5 b6 hs1 hs2
  have HE1 := Lib.hid (openc_any ky p1 p2 fd' at' n' til' sn' da m4 dc _ w4 hDo)
  have hen : opEnc ⟨ky, p1, p2, fd', at', n', til', sn', ds.take m4⟩ = (Ov.bytes ⟨ky, p1, p2, fd', at', n', til', sn', ds.take m4⟩ a, 0) := by
    unfold opEnc
    rw [hka]
    simp only
    rw [if_pos hra]
  have hbl := Ov.bytes_len ⟨ky, p1, p2, fd', at', n', til', sn', ds.take m4⟩ a hra
  rw [hen] at HE1
  have HMORE := Lib.hid (fun L (hL : L ≠ []) => opDec_more ⟨ky, p1, p2, fd', at', n', til', sn', ds.take m4⟩ a L hka hra b7 hL)
  have HCUT := Lib.hid (fun m (hm : m < (Ov.bytes ⟨ky, p1, p2, fd', at', n', til', sn', ds.take m4⟩ a).length) => opDec_cut ⟨ky, p1, p2, fd', at', n', til', sn', ds.take m4⟩ a m hka hra b7 hm)
  simp only at HE1
  generalize Ov.bytes ⟨ky, p1, p2, fd', at', n', til', sn', ds.take m4⟩ a = L1 at *
  obtain ⟨hbl1, hbl0⟩ := hbl
  rw [show ((0 : Nat) : Int) = 0 from rfl] at HE1
  unfold ovCells at HE1
  have Dc := cells_at hoE
  (try unfold ovCells at Dc)
  have c0 := Dc 0; have c1 := Dc 1; have c2 := Dc 2; have c3 := Dc 3; have c4 := Dc 4; have c5 := Dc 5; have c6 := Dc 6; have c7 := Dc 7; have c8 := Dc 8
  simp only [List.getElem?_toArray, List.getElem?_cons_zero, List.getElem?_cons_succ] at c0 c1 c2 c3 c4 c5 c6 c7 c8
  clear Dc
  have HR := Lib.hid hrE
  clear hoE hrE hDo hra hen b1 b2 b3 b4 b5 b6 b7 hk1 hk2 hky hdl4 hka
  have z00 : ((0 : Int) != 0) = false := rfl
  go_wp2_with fail
  refine HE1.out.mono ?_
  rintro e w5 ⟨v5, rfl, ho5, hb5⟩
  have hE5 := hEE.step hb5
  have hR := (hb5.block _ (lt_of_heap HR.out)).trans HR.out
  have ho5 := ho5.base hEE.2
  obtain ⟨N1, hN1⟩ : ∃ q, L1.length = q := ⟨_, rfl⟩
  have HN1 := Lib.hid hN1
  rw [hN1] at hbl0 hbl1
  obtain ⟨a5, m5, rfl, hS1⟩ := ho5.bsn hN1
  have hpos : ((N1 : Int) == 0) = false := by simp; omega
  clear c0 c1 c2 c3 c4 c5 c6 c7 c8 HR HE1 hEE ho5 hb5 hN1
  have HR := Lib.hid hR
  clear hR
  go_upto_region 6 with fail
  have hOw7 := Own.of_row (Row.made w5 #[.int .u8 7] 1 1 [7] rfl rfl (Nat.le_refl _) (by simp [maxLen]) rfl) (Nat.le_refl w5.heap.size)
  have hE6 := hE5.alloc (.cells #[.int .u8 7] TB)
  go_wp2_with fail
  refine (cut_any 20 ax lx cx _ hlcx (by decide)).mono ?_
  rintro e w6 ⟨rfl, rfl⟩
  have hBx := (HBA.out.2.2 _ hE6).take (Nat.min_le_left lx 20)
  have hm20 : min lx 20 ≤ 20 := Nat.min_le_right _ _
  generalize min lx 20 = mx at *
  have hzl : (xs.take mx).length = mx := hBx.1
  generalize xs.take mx = zs at *
  go_wp2_with (at_builtin; refine wpList_append_bytes rfl _ _ rfl (w5.heap.size) _ [7] rfl hOw7 ax mx cx zs rfl hBx ?p3 ?p4 ?pk)
  case p3 => simp; omega
  case p4 => simp
  intro v7 w7 ho7 hg7 _
  have hb7 : Below w5.heap.size w5 w7 := (((Ext.refl w5).alloc (.cells #[.int .u8 7] TB)).grown hg7 hOw7.blk).1
  have hE7 := hE5.step hb7
  have hS1 := hS1.below hb7
  have hR := (hb7.block _ (lt_of_heap HR.out)).trans HR.out
  have ho7b := ho7
  have ho7 := ho7.base hE5.2
  obtain ⟨N2, hN2⟩ : ∃ q, (7 :: zs).length = q := ⟨_, rfl⟩
  have hN2l : N2 ≤ 21 := by rw [← hN2]; simp; omega
  have hMne : (7 :: zs : List UInt8) ≠ [] := by simp
  have HMN := Lib.hid hMne
  have HN2 := Lib.hid hN2
  generalize (7 :: zs : List UInt8) = M at *
  have hlo7 : ∀ q, v7.ownBlock = some q → H + 1 < q := fun q hq => by have := ho7b.blk q hq; have := lt_of_heap HR.out; omega
  obtain ⟨a7, m7, rfl, hM⟩ := ho7.bsn hN2
  have HAM := Lib.hid (fun (ad : Addr) (h : a7 = some ad) (e : ad.block = H + 1) => by have := hlo7 ad.block (by rw [h]; rfl); omega : ∀ ad : Addr, a7 = some ad → ad.block = H + 1 → False)
  clear hOw7 hE6 hBx hzl hg7 hb7 ho7 ho7b hlo7 HR hE5 hMne hN2
  have HR := Lib.hid hR
  clear hR
  go_upto_region 7 with fail
  have hO := Own.empty w7
  go_wp2_with (at_builtin; refine wpList_append_bytes rfl _ _ rfl (w7.heap.size) _ [] rfl hO a5 N1 m5 L1 rfl (hS1.alloc _) ?x3 (by simp) ?xk)
  case x3 => simp; omega
  intro v8 w8 ho8 hg8 _
  have hb8 : Below w7.heap.size w7 w8 := (((Ext.refl w7).alloc (.cells #[] TB)).grown hg8 hO.blk).1
  have hE8 := hE7.step hb8
  have hM8 := hM.below hb8
  clear hg8 hO
  go_wp2_with (at_builtin; refine wpList_append_bytes rfl _ _ rfl (w7.heap.size) v8 L1 rfl ho8 a7 N2 m7 M rfl hM8 ?y3 ?y4 ?yk)
  case y3 => rw [HN1.out]; omega
  case y4 => exact hb8.size
  intro v9 w9 ho9 hg9 _
  have hb9 : Below w7.heap.size w7 w9 := Below.grown hb8 hg9 hb8.size ho8.blk
  have hE9 := hE7.step hb9
  have hS1 := hS1.below hb9
  have hM := hM.below hb9
  have hR := (hb9.block _ (lt_of_heap HR.out)).trans HR.out
  obtain ⟨N3, hN3⟩ : ∃ q, (L1 ++ M).length = q := ⟨_, rfl⟩
  have hN3l : N3 ≤ 1121 := by rw [← hN3, List.length_append, HN1.out, HN2.out]; omega
  obtain ⟨a9, m9, rfl, hB9⟩ := ho9.bsn hN3
  have HD1 := Lib.hid (opdec_any a9 N3 m9 (L1 ++ M) w9 hB9 (by unfold big; omega))
  unfold DecPost at HD1
  rw [HMORE.out M HMN.out] at HD1
  unfold opCells zeroOv at HD1
  simp only at HD1
  clear HR hb8 hE8 hM8 ho8 hg9 hb9 hE7 hN3 ho9 hB9 HMORE
  go_wp2_with fail
  refine HD1.out.mono ?_
  rintro e w10 ⟨⟨v10, rfl, ho10⟩, hb10⟩
  obtain ⟨a10, m10, rfl, hZ1⟩ := ho10.bsn (n := 0) rfl
  have hE10 := hE9.step hb10
  have hS1 := hS1.below hb10
  have hM := hM.below hb10
  have hR := (hb10.block _ (lt_of_heap hR)).trans hR
  have hX1 := heap_alloc_new w10 (.cells (ovCells 0 (strOf []) (strOf []) 0 0 0 0 0 a10 0 m10) 25)
  have hE11 := hE10.alloc (.cells (ovCells 0 (strOf []) (strOf []) 0 0 0 0 0 a10 0 m10) 25)
  have hS1 := hS1.alloc (.cells (ovCells 0 (strOf []) (strOf []) 0 0 0 0 0 a10 0 m10) 25)
  have hM := hM.alloc (.cells (ovCells 0 (strOf []) (strOf []) 0 0 0 0 0 a10 0 m10) 25)
  have hZ1 := hZ1.alloc (.cells (ovCells 0 (strOf []) (strOf []) 0 0 0 0 0 a10 0 m10) 25)
  have hR := (Below.heap_alloc w10 (.cells (ovCells 0 (strOf []) (strOf []) 0 0 0 0 0 a10 0 m10) 25) _ (lt_of_heap hR)).trans hR
  unfold ovCells at hX1 hE11 hS1 hM hZ1 hR
  clear HD1 hE9 ho10 hb10 hE10
  go_upto_region 8 with fail
  generalize w10.alloc _ = w11 at *
  generalize w10.heap.size = X1 at *
  have HR := Lib.hid hR
  have HX1 := Lib.hid hX1
  clear hR hX1
  have hw1 : IntKind.i64.wrap ((N1 : Int) - 1) = (N1 : Int) - 1 := IntWalk.i64_in _ (by omega)
  go_wp2_with fail
  refine (within_any icut 0 ((N1 : Int) - 1) _ (by omega) (by omega) (by omega)).mono ?_
  rintro e w12 ⟨rfl, rfl⟩
  have hi := within_bd icut 0 ((N1 : Int) - 1) (by omega)
  generalize within icut 0 ((N1 : Int) - 1) = ii at *
  obtain ⟨i, rfl⟩ : ∃ i : Nat, ii = (i : Int) := ⟨ii.toNat, by omega⟩
  have hiL : i < N1 := by omega
  have hS2 := hS1.take (Nat.le_of_lt hiL)
  have hd2 : ∃ r, r ≠ 0 ∧ opDec (L1.take i) = (zeroOv, r) := by
    have h1 := HCUT.out i (by rw [HN1.out]; exact hiL)
    have h2 := opDec_no _ h1
    exact ⟨(opDec (L1.take i)).2, h1, by rw [← h2]⟩
  obtain ⟨r2, hr2, hd2⟩ := hd2
  have HD2 := Lib.hid (opdec_any a5 i m5 (L1.take i) w11 hS2 (by unfold big; omega))
  unfold DecPost at HD2
  rw [hd2] at HD2
  unfold opCells zeroOv at HD2
  simp only at HD2
  have hz2 : ((r2 : Int) == 0) = false := by simp; omega
  have hcm : N1 ≤ m5 := hS1.2.1
  have hi0 : (0 : Int) ≤ (i : Int) := by omega
  have hic : (i : Int) ≤ (m5 : Int) := by omega
  clear hr2 hd2 hS2 hi HCUT
  go_wp2_with fail
  refine HD2.out.mono ?_
  rintro e w12 ⟨⟨v12, rfl, ho12⟩, hb12⟩
  obtain ⟨a12, m12, rfl, hZ2⟩ := ho12.bsn (n := 0) rfl
  have hE12 := hE11.step hb12
  have hM := hM.below hb12
  have hZ1 := hZ1.below hb12
  have hR := (hb12.block _ (lt_of_heap HR.out)).trans HR.out
  have hX1 := (hb12.block _ (lt_of_heap HX1.out)).trans HX1.out
  have hX2 := heap_alloc_new w12 (.cells (ovCells 0 (strOf []) (strOf []) 0 0 0 0 0 a12 0 m12) 25)
  have hE13 := hE12.alloc (.cells (ovCells 0 (strOf []) (strOf []) 0 0 0 0 0 a12 0 m12) 25)
  have hM := hM.alloc (.cells (ovCells 0 (strOf []) (strOf []) 0 0 0 0 0 a12 0 m12) 25)
  have hZ1 := hZ1.alloc (.cells (ovCells 0 (strOf []) (strOf []) 0 0 0 0 0 a12 0 m12) 25)
  have hZ2 := hZ2.alloc (.cells (ovCells 0 (strOf []) (strOf []) 0 0 0 0 0 a12 0 m12) 25)
  have hR := (Below.heap_alloc w12 (.cells (ovCells 0 (strOf []) (strOf []) 0 0 0 0 0 a12 0 m12) 25) _ (lt_of_heap hR)).trans hR
  have hX1 := (Below.heap_alloc w12 (.cells (ovCells 0 (strOf []) (strOf []) 0 0 0 0 0 a12 0 m12) 25) _ (lt_of_heap hX1)).trans hX1
  unfold ovCells at hX2 hE13 hM hZ1 hZ2 hR hX1
  clear HD2 HR HX1 hE11 hE12 ho12 hb12 hw1 hic hi0 hcm hS1
  go_upto_region 9 with fail
  generalize w12.alloc _ = w13 at *
  generalize w12.heap.size = X2 at *
  have z12 : ((12 : Int) == 0) = false := rfl
  have HK1 := Lib.hid (keepop_any 0 0 [] [] [] [] 0 0 0 0 0 0 0 0 0 0 a10 none 0 0 m10 0 [] [] w13 hZ1 (Bs.nil _))
  rw [decide_eq_true (by simp)] at HK1
  unfold ovCells at HK1
  rw [show strOf [] = (⟨#[]⟩ : ByteArray) from rfl] at HK1 hX1 hX2
  have HX2 := Lib.hid hX2
  have Dc := cells_at hX1
  (try unfold ovCells at Dc)
  have c0 := Dc 0; have c1 := Dc 1; have c2 := Dc 2; have c3 := Dc 3; have c4 := Dc 4; have c5 := Dc 5; have c6 := Dc 6; have c7 := Dc 7; have c8 := Dc 8
  simp only [List.getElem?_toArray, List.getElem?_cons_zero, List.getElem?_cons_succ] at c0 c1 c2 c3 c4 c5 c6 c7 c8
  clear Dc
  clear hX1 hX2 hZ1
  go_wp2_with fail
  refine HK1.out.mono ?_
  rintro e w14 ⟨rfl, hb14⟩
  have hE14 := hE13.step hb14
  have hM := hM.below hb14
  have hZ2 := hZ2.below hb14
  have hR := (hb14.block _ (lt_of_heap hR)).trans hR
  have hX2 := (hb14.block _ (lt_of_heap HX2.out)).trans HX2.out
  have HK2 := Lib.hid (keepop_any 0 0 [] [] [] [] 0 0 0 0 0 0 0 0 0 0 a12 none 0 0 m12 0 [] [] w14 hZ2 (Bs.nil _))
  rw [decide_eq_true (by simp)] at HK2
  unfold ovCells at HK2
  rw [show strOf [] = (⟨#[]⟩ : ByteArray) from rfl] at HK2
  clear c0 c1 c2 c3 c4 c5 c6 c7 c8 HX2 HK1 hE13 hb14 hZ2
  have Dc := cells_at hX2
  (try unfold ovCells at Dc)
  have c0 := Dc 0; have c1 := Dc 1; have c2 := Dc 2; have c3 := Dc 3; have c4 := Dc 4; have c5 := Dc 5; have c6 := Dc 6; have c7 := Dc 7; have c8 := Dc 8
  simp only [List.getElem?_toArray, List.getElem?_cons_zero, List.getElem?_cons_succ] at c0 c1 c2 c3 c4 c5 c6 c7 c8
  clear Dc
  clear hX2
  go_wp2_with fail
  refine HK2.out.mono ?_
  rintro e w15 ⟨rfl, hb15⟩
  have hE15 := hE14.step hb15
  have hM := hM.below hb15
  have hR := (hb15.block _ (lt_of_heap hR)).trans hR
  clear c0 c1 c2 c3 c4 c5 c6 c7 c8 HK2 hE14 hb15 hz2 z12
  go_upto_region 11 with fail
  have hE16 := hE15.drew
  have hM := hM.drew
  have hR : w15.drew.heap[H + 1]? = _ := hR
  clear hE15
  go_cut [] (fun wx => ∃ (n4 : Int) (m20 : Nat), 0 ≤ n4 ∧ n4 ≤ 99 ∧ m20 ≤ 30 ∧ m20 ≤ rl ∧ wx.heap[H + 1]? = some (.cells (rpCells 0 n4 ra m20 rc none 0 0 zeroNd) 45 (0, 0)) ∧ Bs wx a7 N2 m7 M ∧ Ext H w wx)
  case first =>
    have hr1 := cells_at hR 1
    have hr2 := cells_at hR 2
    simp only [List.getElem?_toArray, List.getElem?_cons_zero, List.getElem?_cons_succ] at hr1 hr2
    refine heldB_start (fun i => [1, 2, 4, 5, 6].contains i) (fun w' => w'.cell? ⟨H + 1, 1, none⟩ = some (.int .i64 n3) ∧ w'.cell? ⟨H + 1, 2, none⟩ = some (.slice ra rl rc)) (by kernel_rfl) ?_ (fun hHeld => ?_)
    · exact ⟨hr1, hr2⟩
    clear hr1 hr2
    generalize w15.drew = w16 at *
    refine heldB_free (i := 0) (v := ?_) 82 rfl (by kernel_rfl) (by kernel_rfl) (by kernel_rfl) (by kernel_rfl) (fun _ _ _ h => h) rfl (Or.inl ⟨by rfl, ?_⟩) ?_
    rotate_left
    · intro w hSw; (try dsimp only at hSw); go_simp; (try with_reducible rfl)
    simp only [List.set_cons_zero, List.set_cons_succ]
    refine heldB_free (i := 3) (v := ?_) 85 rfl (by kernel_rfl) (by kernel_rfl) (by kernel_rfl) (by kernel_rfl) (fun _ _ _ h => h) rfl (Or.inl ⟨by rfl, ?_⟩) ?_
    rotate_left
    · intro w hSw; (try dsimp only at hSw); go_simp; (try with_reducible rfl)
    simp only [List.set_cons_zero, List.set_cons_succ]
    refine heldB_take (i := 1) (v := ?_) 83 rfl (by kernel_rfl) (by kernel_rfl) (by kernel_rfl) (by kernel_rfl) (fun _ _ _ h => h) rfl (by assumption) (Or.inl ⟨by rfl, ?_⟩) ?_
    rotate_left
    · intro w hSw; (try dsimp only at hSw); go_simp; (try with_reducible rfl)
    simp only [List.set_cons_zero, List.set_cons_succ]
    refine heldB_take (i := 4) (v := ?_) 86 rfl (by kernel_rfl) (by kernel_rfl) (by kernel_rfl) (by kernel_rfl) (fun _ _ _ h => h) rfl (by assumption) (Or.inl ⟨by rfl, ?_⟩) ?_
    rotate_left
    · intro w hSw; (try dsimp only at hSw); go_simp; (try with_reducible rfl)
    simp only [List.set_cons_zero, List.set_cons_succ]
    refine heldB_one 2 (by kernel_rfl) rfl (fun K hK => ?_)
    go_simp
    refine (within_any n3 0 99 _ (by decide) (by decide) (by decide)).mono ?_
    rintro e w17 ⟨rfl, rfl⟩
    have hn4 := within_bd n3 0 99 (by decide)
    generalize within n3 0 99 = n4 at *
    go_wp2_with fail
    refine hK.out _ _ (fun _ => hHeld) ?_
    clear hK K
    refine heldB_one 5 (by kernel_rfl) rfl (fun K hK => ?_)
    go_simp
    refine (cut_any 30 ra rl rc _ hlr (by decide)).mono ?_
    rintro e w17 ⟨rfl, rfl⟩
    have hm20 : min rl 30 ≤ 30 := Nat.min_le_right _ _
    have hm20r : min rl 30 ≤ rl := Nat.min_le_left _ _
    generalize min rl 30 = m20 at *
    go_wp2_with fail
    refine hK.out _ _ (fun _ => hHeld) ?_
    clear hK K
    refine heldB_one 6 (by kernel_rfl) rfl (fun K hK => ?_)
    go_simp
    refine hK.out _ _ (fun _ => hHeld) ?_
    clear hK K hHeld
    refine heldB_one 7 (by kernel_rfl) rfl (fun K hK => ?_)
    have Dc := cells_at hR
    (try unfold rpCells at Dc)
    have c0 := Dc 0; have c1 := Dc 1; have c2 := Dc 2; have c3 := Dc 3; have c4 := Dc 4; have c5 := Dc 5; have c6 := Dc 6; have c7 := Dc 7; have c8 := Dc 8; have c9 := Dc 9
    simp only [List.getElem?_toArray, List.getElem?_cons_zero, List.getElem?_cons_succ] at c0 c1 c2 c3 c4 c5 c6 c7 c8 c9
    clear Dc
    have f := frozen_at hR
    have f0 := f 0; have f1 := f 1; have f2 := f 2; have f3 := f 3; have f4 := f 4; have f5 := f 5; have f6 := f 6; have f7 := f 7; have f8 := f 8; have f9 := f 9
    clear f
    have hlR := lt_of_heap hR
    have hRn := put10 (v0 := .int .i64 0) (v1 := .int .i64 n4) (v2 := .slice ra m20 rc) (v3 := .slice none 0 0) (v4 := .int .i64 0) (v5 := .int .i64 0) (v6 := .int .i64 0) (v7 := .int .i64 0) (v8 := .int .u64 0) (v9 := .bool false) hR
    have hEn := ext10 hE16 (Nat.le_succ H) (.int .i64 0) (.int .i64 n4) (.slice ra m20 rc) (.slice none 0 0) (.int .i64 0) (.int .i64 0) (.int .i64 0) (.int .i64 0) (.int .u64 0) (.bool false)
    have hMn := bs10 hM (fun ad h e => HAM.out ad h e) (.int .i64 0) (.int .i64 n4) (.slice ra m20 rc) (.slice none 0 0) (.int .i64 0) (.int .i64 0) (.int .i64 0) (.int .i64 0) (.int .u64 0) (.bool false)
    have HALL := Lib.hid (And.intro hRn (And.intro hMn hEn))
    clear hRn hMn hEn hM hE16 hR
    go_simp
    refine hK.out _ _ (fun h => by simp at h) ?_
    clear hK K c0 c1 c2 c3 c4 c5 c6 c7 c8 c9 f0 f1 f2 f3 f4 f5 f6 f7 f8 f9
    refine heldB_done (by kernel_rfl) ?_ _
    go_wp2_with fail
    go_meet
    exact ⟨n4, m20, hn4.1, hn4.2, hm20, hm20r, HALL.out⟩
  case rest =>
    obtain ⟨n4, m20, hn41, hn42, hm20, hm20r, hR, hM, hE⟩ := hcut
    clear z00 hpos
    have z00 : ((0 : Int) != 0) = false := rfl
    have hDr := (HBA.out.2.1 _ hE).take hm20r
    have hdl : (rs.take m20).length = m20 := hDr.1
    have hF : Rp.Fine ⟨0, n4, rs.take m20, [], zeroNd⟩ := by
      have h99 : n4 ≤ 65535 := by omega
      refine ⟨⟨Int.le_refl 0, (show (0 : Int) ≤ 255 by decide), decide_eq_true ⟨hn41, h99⟩, ?_, by simp⟩, by simp, .inl ⟨rfl, rfl, rfl, rfl, rfl, rfl⟩⟩
      show (rs.take m20).length ≤ 65535
      omega
    have hbd : 0 < (Rp.bytes ⟨0, n4, rs.take m20, [], zeroNd⟩).length ∧ (Rp.bytes ⟨0, n4, rs.take m20, [], zeroNd⟩).length ≤ 40000 := by
      rw [Rp.bytes_eq]
      have h2 : (lenBytes (rs.take m20)).length ≤ 32 := by simp [lenBytes, be_length]; omega
      unfold Rp.head Rp.tail namesBytes
      simp only [List.length_append, be_length]
      rw [if_pos ⟨rfl, rfl, rfl, rfl, rfl, rfl⟩]
      simp
      omega
    have hen : rpEnc ⟨0, n4, rs.take m20, [], zeroNd⟩ = (Rp.bytes ⟨0, n4, rs.take m20, [], zeroNd⟩, 0) := by unfold rpEnc; rw [if_pos hF]
    have HE3 := Lib.hid (oprenc_any 0 n4 ra m20 rc _ none 0 0 [] zeroNd wc hDr (Ss.nil _))
    rw [hen] at HE3
    have HMORE := Lib.hid (fun L (hL : L ≠ []) => rpDec_more ⟨0, n4, rs.take m20, [], zeroNd⟩ L hF (show 0 < 18446744073709551616 by decide) hL)
    have HCUT := Lib.hid (fun m (hm : m < (Rp.bytes ⟨0, n4, rs.take m20, [], zeroNd⟩).length) => rpDec_cut ⟨0, n4, rs.take m20, [], zeroNd⟩ m hF (show 0 < 18446744073709551616 by decide) hm)
    simp only at HE3
    generalize Rp.bytes ⟨0, n4, rs.take m20, [], zeroNd⟩ = L2 at *
    rw [show ((0 : Nat) : Int) = 0 from rfl] at HE3
    unfold rpCells zeroNd at HE3
    simp only at HE3
    have Dc := cells_at hR
    (try unfold rpCells at Dc)
    have c0 := Dc 0; have c1 := Dc 1; have c2 := Dc 2; have c3 := Dc 3; have c4 := Dc 4; have c5 := Dc 5; have c6 := Dc 6; have c7 := Dc 7; have c8 := Dc 8; have c9 := Dc 9
    simp only [zeroNd, List.getElem?_toArray, List.getElem?_cons_zero, List.getElem?_cons_succ] at c0 c1 c2 c3 c4 c5 c6 c7 c8 c9
    clear Dc
    clear hF hen hdl hDr hR
    obtain ⟨hbd0, hbd1⟩ := hbd
    obtain ⟨N4, hN4⟩ : ∃ q, L2.length = q := ⟨_, rfl⟩
    have HN4 := Lib.hid hN4
    rw [hN4] at hbd0 hbd1
    have hpos : ((N4 : Int) == 0) = false := by simp; omega
    go_wp2_with fail
    refine HE3.out.mono ?_
    rintro e w17 ⟨v17, rfl, ho17, hb17⟩
    have hE17 := hE.step hb17
    have hM := hM.below hb17
    have ho17 := ho17.base hE.2
    obtain ⟨a17, m17, rfl, hS1⟩ := ho17.bsn hN4
    clear c0 c1 c2 c3 c4 c5 c6 c7 c8 c9 HE3 hE ho17 hb17 hN4
    go_upto_region 15 with fail
    have hO := Own.empty w17
    go_wp2_with (at_builtin; refine wpList_append_bytes rfl _ _ rfl (w17.heap.size) _ [] rfl hO a17 N4 m17 L2 rfl (hS1.alloc _) ?r3 (by simp) ?rk)
    case r3 => simp; omega
    intro v18 w18 ho18 hg18 _
    have hb18 : Below w17.heap.size w17 w18 := (((Ext.refl w17).alloc (.cells #[] TB)).grown hg18 hO.blk).1
    have hM18 := hM.below hb18
    clear hg18 hO
    go_wp2_with (at_builtin; refine wpList_append_bytes rfl _ _ rfl (w17.heap.size) v18 L2 rfl ho18 a7 N2 m7 M rfl hM18 ?s3 ?s4 ?sk)
    case s3 => rw [HN4.out]; omega
    case s4 => exact hb18.size
    intro v19 w19 ho19 hg19 _
    have hb19 : Below w17.heap.size w17 w19 := Below.grown hb18 hg19 hb18.size ho18.blk
    have hE19 := hE17.step hb19
    have hS1 := hS1.below hb19
    obtain ⟨N5, hN5⟩ : ∃ q, (L2 ++ M).length = q := ⟨_, rfl⟩
    have hN5l : N5 ≤ 40021 := by rw [← hN5, List.length_append, HN4.out, HN2.out]; omega
    obtain ⟨a19, m19, rfl, hB19⟩ := ho19.bsn hN5
    have HD1 := Lib.hid (oprdec_any a19 N5 m19 (L2 ++ M) w19 hB19 (by unfold big; omega))
    unfold RpPost at HD1
    rw [HMORE.out M HMN.out] at HD1
    unfold rpV zeroRp zeroNd at HD1
    simp only at HD1
    clear hb18 hM18 ho18 hg19 hb19 hE17 hN5 ho19 hB19 HMORE hM
    go_wp2_with fail
    refine HD1.out.mono ?_
    rintro e w20 ⟨⟨dv1, nv1, rfl, hod1, hon1⟩, hb20⟩
    obtain ⟨a20, m20', rfl, _⟩ := hod1.bsn (n := 0) rfl
    obtain ⟨na20, nm20, rfl, _⟩ := hon1.ss (n := 0) rfl
    have hE20 := hE19.step hb20
    have hS1 := hS1.below hb20
    have hE21 := hE20.alloc (.cells (rpV zeroRp (.slice a20 0 m20') (.slice na20 0 nm20)) 45)
    have hS1 := hS1.alloc (.cells (rpV zeroRp (.slice a20 0 m20') (.slice na20 0 nm20)) 45)
    unfold rpV zeroRp zeroNd at hE21 hS1
    simp only at hE21 hS1
    clear HD1 hE19 hod1 hon1 hb20 hE20
    go_upto_region 16 with fail
    generalize w20.alloc _ = w21 at *
    generalize w20.heap.size = X3 at *
    have hw1 : IntKind.i64.wrap ((N4 : Int) - 1) = (N4 : Int) - 1 := IntWalk.i64_in _ (by omega)
    go_wp2_with fail
    refine (within_any icut 0 ((N4 : Int) - 1) _ (by omega) (by omega) (by omega)).mono ?_
    rintro e w22 ⟨rfl, rfl⟩
    have hj := within_bd icut 0 ((N4 : Int) - 1) (by omega)
    generalize within icut 0 ((N4 : Int) - 1) = jj at *
    obtain ⟨j, rfl⟩ : ∃ j : Nat, jj = (j : Int) := ⟨jj.toNat, by omega⟩
    have hjL : j < N4 := by omega
    have hS2 := hS1.take (Nat.le_of_lt hjL)
    have HD2 := Lib.hid (oprdec_any a17 j m17 (L2.take j) w21 hS2 (by unfold big; omega))
    unfold RpPost at HD2
    rw [HCUT.out j (by rw [HN4.out]; exact hjL)] at HD2
    unfold rpV zeroRp zeroNd at HD2
    simp only at HD2
    have hcm : N4 ≤ m17 := hS1.2.1
    have hj0 : (0 : Int) ≤ (j : Int) := by omega
    have hjc : (j : Int) ≤ (m17 : Int) := by omega
    clear hS2 hj HCUT
    go_wp2_with fail
    refine HD2.out.mono ?_
    rintro e w22 ⟨⟨dv2, nv2, rfl, hod2, hon2⟩, hb22⟩
    obtain ⟨a22, m22, rfl, _⟩ := hod2.bsn (n := 0) rfl
    obtain ⟨na22, nm22, rfl, _⟩ := hon2.ss (n := 0) rfl
    have hE22 := hE21.step hb22
    have hE23 := hE22.alloc (.cells (rpV zeroRp (.slice a22 0 m22) (.slice na22 0 nm22)) 45)
    unfold rpV zeroRp zeroNd at hE23
    simp only at hE23
    clear HD2 hE21 hod2 hon2 hb22 hE22 hw1 hjc hj0 hcm hS1
    go_upto_region 17 with fail
    generalize w22.alloc _ = w23 at *
    generalize w22.heap.size = X4 at *
    have z12 : ((12 : Int) == 12) = true := rfl
    go_wp2_with fail
    refine (law15_known _).mono ?_
    rintro e w24 ⟨rfl, hb24⟩
    go_wp2_with fail
    go_ret
    rw [← HH.out]
    exact ⟨rfl, (hE23.step hb24).1⟩
end Go.Proofs.Ytphjdlckoddgmaa
