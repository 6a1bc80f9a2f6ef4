/- The contract of permafrostref15.Encode. -/
import Derived.Test.YtphjdlckoddgmaaOpRefNo
import Derived.Test.YtphjdlckoddgmaaOpEnc
import Derived.Test.YtphjdlckoddgmaaRef10
import Derived.Test.YtphjdlckoddgmaaHeld
import Derived.Deep.DeepCutAuto
namespace Go.Proofs.Ytphjdlckoddgmaa
open Go.RowKit

set_option maxHeartbeats 2000000 in
set_option maxRecDepth 100000 in
theorem pred_path (k : Int) (a : Ask) (ha : asksOf k = some a) (w : World) : Calls Try.prog 31 #[.int .i64 k] w fun e w' => e = .returned (.bool a.path) ∧ w = w' := by
  have hr := asksOf_range ha
  have hk := kinds (k := k) (by omega)
  clear hr
  rcases hk with rfl | rfl | rfl | rfl | rfl | rfl | rfl | rfl | rfl | rfl | rfl | rfl | rfl | rfl | rfl | rfl | rfl
  all_goals
    simp only [asksOf, Option.some.injEq] at ha
    subst ha
    go_enter Try.func31, Try.ntmps31
    go_wp2
    go_ret
    exact ⟨rfl, rfl⟩
set_option maxHeartbeats 2000000 in
set_option maxRecDepth 100000 in
theorem pred_to (k : Int) (a : Ask) (ha : asksOf k = some a) (w : World) : Calls Try.prog 33 #[.int .i64 k] w fun e w' => e = .returned (.bool a.to) ∧ w = w' := by
  have hr := asksOf_range ha
  have hk := kinds (k := k) (by omega)
  clear hr
  rcases hk with rfl | rfl | rfl | rfl | rfl | rfl | rfl | rfl | rfl | rfl | rfl | rfl | rfl | rfl | rfl | rfl | rfl
  all_goals
    simp only [asksOf, Option.some.injEq] at ha
    subst ha
    go_enter Try.func33, Try.ntmps33
    go_wp2
    go_ret
    exact ⟨rfl, rfl⟩
set_option maxHeartbeats 2000000 in
set_option maxRecDepth 100000 in
theorem pred_fd (k : Int) (a : Ask) (ha : asksOf k = some a) (w : World) : Calls Try.prog 34 #[.int .i64 k] w fun e w' => e = .returned (.bool a.fd) ∧ w = w' := by
  have hr := asksOf_range ha
  have hk := kinds (k := k) (by omega)
  clear hr
  rcases hk with rfl | rfl | rfl | rfl | rfl | rfl | rfl | rfl | rfl | rfl | rfl | rfl | rfl | rfl | rfl | rfl | rfl
  all_goals
    simp only [asksOf, Option.some.injEq] at ha
    subst ha
    go_enter Try.func34, Try.ntmps34
    go_wp2
    go_ret
    exact ⟨rfl, rfl⟩
set_option maxHeartbeats 2000000 in
set_option maxRecDepth 100000 in
theorem pred_til (k : Int) (a : Ask) (ha : asksOf k = some a) (w : World) : Calls Try.prog 36 #[.int .i64 k] w fun e w' => e = .returned (.bool a.til) ∧ w = w' := by
  have hr := asksOf_range ha
  have hk := kinds (k := k) (by omega)
  clear hr
  rcases hk with rfl | rfl | rfl | rfl | rfl | rfl | rfl | rfl | rfl | rfl | rfl | rfl | rfl | rfl | rfl | rfl | rfl
  all_goals
    simp only [asksOf, Option.some.injEq] at ha
    subst ha
    go_enter Try.func36, Try.ntmps36
    go_wp2
    go_ret
    exact ⟨rfl, rfl⟩
set_option maxHeartbeats 2000000 in
set_option maxRecDepth 100000 in
theorem pred_snap (k : Int) (a : Ask) (ha : asksOf k = some a) (w : World) : Calls Try.prog 38 #[.int .i64 k] w fun e w' => e = .returned (.bool a.snap) ∧ w = w' := by
  have hr := asksOf_range ha
  have hk := kinds (k := k) (by omega)
  clear hr
  rcases hk with rfl | rfl | rfl | rfl | rfl | rfl | rfl | rfl | rfl | rfl | rfl | rfl | rfl | rfl | rfl | rfl | rfl
  all_goals
    simp only [asksOf, Option.some.injEq] at ha
    subst ha
    go_enter Try.func38, Try.ntmps38
    go_wp2
    go_ret
    exact ⟨rfl, rfl⟩

set_option maxHeartbeats 8000000 in
set_option maxRecDepth 100000 in
/-- behind the refusals: x, at block X, is what is asked -/
theorem renc_ok (k : Nat) (p t f q u s d : Bool) (ps ts : List UInt8) (fd at_ n sn : Nat) (til : Nat) (da : Option Addr) (dl dc : Nat) (ds : List UInt8) (c1 c2 : ByteArray) (c3 c4 c5 c7 : Int) (c6 : Nat) (c8a : Option Addr) (c8l c8c : Nat) (ha : asksOf k = some ⟨p, t, f, q, u, s, d⟩) (w : World) (hB : Bs w da dl dc ds)
    (HAs : Hid (∀ W, Calls Try.prog 18 #[.agg (ovCells k c1 c2 c3 c4 c5 c6 c7 c8a c8l c8c)] W fun e w' => e = .returned (.agg (ovCells k (strOf ps) (strOf ts) fd at_ n til sn da dl dc)) ∧ Below W.heap.size W w'))
    (h1 : ps.length ≤ 200) (h2 : ts.length ≤ 200) (h3 : dl ≤ 600) (h4 : fd < 65536) (h5 : at_ < 65536) (h6 : n < 65536) (h7 : sn < 65536) :
    Calls Try.prog 12 #[.agg (ovCells k c1 c2 c3 c4 c5 c6 c7 c8a c8l c8c)] w fun e w' => ∃ v, e = .returned (.tuple #[v, .int .i64 0]) ∧ Own w' w.heap.size v ((⟨k, ps, ts, fd, at_, n, til, sn, ds⟩ : Ov).bytes ⟨p, t, f, q, u, s, d⟩) ∧ Below w.heap.size w w' := by
  have kc := run_bytes ps
  have kd := run_bytes ts
  have hdl : ds.length = dl := hB.1
  have HQ := Lib.hid (kind_eqs ha)
  have hr := asksOf_range ha
  have e1 : (1 : Int) ≤ (k : Int) := by omega
  have e2 : (k : Int) ≤ 17 := by omega
  have hk17 : k ≤ 17 := by omega
  have F1 : ((strOf ps).size : Int) ≤ 200 := by show ((ps.length : Nat) : Int) ≤ 200; omega
  have F2 : ((strOf ts).size : Int) ≤ 200 := by show ((ts.length : Nat) : Int) ≤ 200; omega
  have F3 : (dl : Int) ≤ 600 := by omega
  have HP := Lib.hid (fun w => pred_path k _ ha w)
  have HT := Lib.hid (fun w => pred_to k _ ha w)
  have HF := Lib.hid (fun w => pred_fd k _ ha w)
  have HU := Lib.hid (fun w => pred_til k _ ha w)
  have HS := Lib.hid (fun w => pred_snap k _ ha w)
  obtain ⟨H, hH⟩ : ∃ H, H = w.heap.size := ⟨_, rfl⟩
  have HH := Lib.hid hH
  have HDL := Lib.hid hdl
  unfold ovCells at HAs ⊢
  clear hr hdl
  go_enter Try.func12, Try.ntmps12
  go_upto_region 3 with fail
  have hO := OvAt.of (heap_alloc_new w (.cells (ovCells k c1 c2 c3 c4 c5 c6 c7 c8a c8l c8c) 25))
  have hE0 := (Ext.refl w).alloc (.cells (ovCells k c1 c2 c3 c4 c5 c6 c7 c8a c8l c8c) 25)
  have hlt : w.heap.size < (w.alloc (.cells (ovCells k c1 c2 c3 c4 c5 c6 c7 c8a c8l c8c) 25)).heap.size := size_alloc _ _
  have hB0 := hB.alloc (.cells (ovCells k c1 c2 c3 c4 c5 c6 c7 c8a c8l c8c) 25)
  unfold ovCells at hO hE0 hlt hB0
  rw [← hH] at hO hE0 hlt ⊢
  clear hH hB
  generalize w.alloc _ = w0 at *
  have HO := Lib.hid hO
  obtain ⟨k0, k1, k2, k3, k4, k5, k6, k7, k8⟩ := hO
  go_wp2_with fail
  refine (HAs.out _).mono ?_
  rintro e w1 ⟨rfl, hb1⟩
  clear k0 k1 k2 k3 k4 k5 k6 k7 k8 HAs
  have hO := HO.out.below hb1 hlt
  have hE1 := (hE0.step hb1).alloc (.cells (ovCells k (strOf ps) (strOf ts) fd at_ n til sn da dl dc) 25)
  have hB1 := (hB0.below hb1).alloc (.cells (ovCells k (strOf ps) (strOf ts) fd at_ n til sn da dl dc) 25)
  have hX := OvAt.of (heap_alloc_new w1 (.cells (ovCells k (strOf ps) (strOf ts) fd at_ n til sn da dl dc) 25))
  have hlt1 := Nat.lt_of_lt_of_le hlt hb1.size
  have hO1 := hO.below (Below.alloc (Below.refl _ _) (Nat.le_refl _) (.cells (ovCells k (strOf ps) (strOf ts) fd at_ n til sn da dl dc) 25)) hlt1
  have hltX : w1.heap.size < (w1.alloc (.cells (ovCells k (strOf ps) (strOf ts) fd at_ n til sn da dl dc) 25)).heap.size := size_alloc _ _
  have hltH := Nat.lt_trans hlt1 hltX
  unfold ovCells at hE1 hB1 hX hO1 hltX hltH
  clear hO HO hb1 hE0 hB0 hlt hlt1
  go_upto_region 4 with fail
  generalize w1.alloc _ = w2 at *
  generalize w1.heap.size = X at *
  have HO := Lib.hid hO1
  have HX := Lib.hid hX
  clear hO1
  obtain ⟨x0, x1, x2, x3, x4, x5, x6, x7, x8⟩ := hX
  go_wp2_with fail
  refine (rshort_true fd (by omega) (by omega) _).mono ?_
  rintro e w3 ⟨rfl, rfl⟩
  go_wp2_with fail
  refine (rshort_true at_ (by omega) (by omega) _).mono ?_
  rintro e w3 ⟨rfl, rfl⟩
  go_wp2_with fail
  refine (rshort_true n (by omega) (by omega) _).mono ?_
  rintro e w3 ⟨rfl, rfl⟩
  go_wp2_with fail
  refine (rshort_true sn (by omega) (by omega) _).mono ?_
  rintro e w3 ⟨rfl, rfl⟩
  have d0 := HO.out.c0
  clear x0 x1 x2 x3 x4 x5 x6 x7 x8 F1 F2 F3
  go_wp2_with fail
  refine (ref_byte none 0 0 [] k w2 (Bs.nil _) (by unfold big; decide)).mono ?_
  rintro e w3 ⟨v3, rfl, ho3, hb3⟩
  have hE3 := hE1.step hb3
  have HO3 := Lib.hid (HO.out.below hb3 hltH)
  have HX3 := Lib.hid (HX.out.below hb3 hltX)
  have hB3 := hB1.below hb3
  have hltH := Nat.lt_of_lt_of_le hltH hb3.size
  have hltX := Nat.lt_of_lt_of_le hltX hb3.size
  obtain ⟨a0, m0, rfl, hv3⟩ := ho3.bsn (n := 1) (by simp [be_length])
  rw [List.nil_append] at hv3 ho3
  obtain ⟨L0, hL0⟩ : ∃ L, L = be k 1 := ⟨_, rfl⟩
  rw [← hL0] at hv3 ho3
  have HL0 := Lib.hid hL0
  have ho3 := ho3.base hE1.2
  clear hL0 hb3 hE1 HO HX hB1 d0
  obtain ⟨l0, hl0⟩ : ∃ l : Nat, l = 1 := ⟨_, rfl⟩
  rw [← hl0] at ho3 hv3 ⊢
  have hM0 : l0 ≤ 1 := by omega
  clear hl0
  -- path
  have d0 := HO3.out.c0
  go_wp2_with fail
  refine (HP.out _).mono ?_
  rintro e w9 ⟨rfl, rfl⟩
  clear d0
  go_upto_if 59 with fail
  go_cut [5] (fun sv wx => ∃ L a l c, L = L0 ++ (if p = true then lenBytes ps else []) ∧ l ≤ 611 ∧ sv = .slice a l c ∧ Own wx H (.slice a l c) L ∧ Bs wx a l c L ∧ Ext H w wx ∧ OvAt wx H k c1 c2 c3 c4 c5 c6 c7 c8a c8l c8c ∧ OvAt wx X k (strOf ps) (strOf ts) fd at_ n til sn da dl dc ∧ Bs wx da dl dc ds ∧ H < wx.heap.size ∧ X < wx.heap.size)
  case first =>
    cases p
    · go_wp2_with fail
      go_meet
      exact ⟨L0, a0, l0, m0, by simp, by omega, rfl, ho3, hv3, hE3, HO3.out, HX3.out, hB3, hltH, hltX⟩
    · have g1 := HX3.out.c1
      go_wp2_with fail
      refine (ref_bytes a0 l0 m0 L0 _ _ _ ps _ (hv3.below (convW_below _ _)) (convW_bs _ ps (by unfold maxLen; omega)) (by unfold big; omega)).mono ?_
      rintro e w9 ⟨v9, rfl, ho9, hb9⟩
      have hbc := (convW_below w3 ps).trans (hb9.mono (convW_below w3 ps).size)
      have hE9 := hE3.step hbc
      have ho9 := ho9.base (Nat.le_trans hE3.2 (convW_below w3 ps).size)
      have hlen : (L0 ++ lenBytes ps).length ≤ 611 := by have := hv3.1; simp [lenBytes, be_length]; omega
      obtain ⟨N, hN⟩ : ∃ N, N = L0 ++ lenBytes ps := ⟨_, rfl⟩
      rw [← hN] at ho9 hlen
      have HN := Lib.hid hN
      obtain ⟨l9, hl9⟩ : ∃ l, l = N.length := ⟨_, rfl⟩
      obtain ⟨a9, c9, rfl, hv9⟩ := ho9.bsn hl9.symm
      rw [← hl9] at hlen
      clear hN hl9
      go_wp2_with fail
      go_meet
      exact ⟨N, a9, l9, c9, by rw [HN.out]; simp, by exact hlen, rfl, ho9, hv9, hE9, HO3.out.below hbc hltH, HX3.out.below hbc hltX, hB3.below hbc, Nat.lt_of_lt_of_le hltH hbc.size, Nat.lt_of_lt_of_le hltX hbc.size⟩
  case rest =>
  clear ho3 hv3 hE3 hB3 hltH hltX HO3 HX3
  obtain ⟨L1, a1, l1, m1, hL1, hM1, rfl, ho3, hv3, hE3, hO3, hX3, hB3, hltH, hltX⟩ := hcut
  have HL1 := Lib.hid hL1
  have HO3 := Lib.hid hO3
  have HX3 := Lib.hid hX3
  clear hL1 hO3 hX3
  -- to
  have d0 := HO3.out.c0
  go_wp2_with fail
  refine (HT.out _).mono ?_
  rintro e w9 ⟨rfl, rfl⟩
  clear d0
  go_upto_if 67 with fail
  go_cut [5] (fun sv wx => ∃ L a l c, L = L1 ++ (if t = true then lenBytes ts else []) ∧ l ≤ 1221 ∧ sv = .slice a l c ∧ Own wx H (.slice a l c) L ∧ Bs wx a l c L ∧ Ext H w wx ∧ OvAt wx H k c1 c2 c3 c4 c5 c6 c7 c8a c8l c8c ∧ OvAt wx X k (strOf ps) (strOf ts) fd at_ n til sn da dl dc ∧ Bs wx da dl dc ds ∧ H < wx.heap.size ∧ X < wx.heap.size)
  case first =>
    cases t
    · go_wp2_with fail
      go_meet
      exact ⟨L1, a1, l1, m1, by simp, by omega, rfl, ho3, hv3, hE3, HO3.out, HX3.out, hB3, hltH, hltX⟩
    · have g1 := HX3.out.c2
      go_wp2_with fail
      refine (ref_bytes a1 l1 m1 L1 _ _ _ ts _ (hv3.below (convW_below _ _)) (convW_bs _ ts (by unfold maxLen; omega)) (by unfold big; omega)).mono ?_
      rintro e w9 ⟨v9, rfl, ho9, hb9⟩
      have hbc := (convW_below wc ts).trans (hb9.mono (convW_below wc ts).size)
      have hE9 := hE3.step hbc
      have ho9 := ho9.base (Nat.le_trans hE3.2 (convW_below wc ts).size)
      have hlen : (L1 ++ lenBytes ts).length ≤ 1221 := by have := hv3.1; simp [lenBytes, be_length]; omega
      obtain ⟨N, hN⟩ : ∃ N, N = L1 ++ lenBytes ts := ⟨_, rfl⟩
      rw [← hN] at ho9 hlen
      have HN := Lib.hid hN
      obtain ⟨l9, hl9⟩ : ∃ l, l = N.length := ⟨_, rfl⟩
      obtain ⟨a9, c9, rfl, hv9⟩ := ho9.bsn hl9.symm
      rw [← hl9] at hlen
      clear hN hl9
      go_wp2_with fail
      go_meet
      exact ⟨N, a9, l9, c9, by rw [HN.out]; simp, by exact hlen, rfl, ho9, hv9, hE9, HO3.out.below hbc hltH, HX3.out.below hbc hltX, hB3.below hbc, Nat.lt_of_lt_of_le hltH hbc.size, Nat.lt_of_lt_of_le hltX hbc.size⟩
  case rest =>
  clear ho3 hv3 hE3 hB3 hltH hltX HO3 HX3
  obtain ⟨L2, a2, l2, m2, hL2, hM2, rfl, ho3, hv3, hE3, hO3, hX3, hB3, hltH, hltX⟩ := hcut
  have HL2 := Lib.hid hL2
  have HO3 := Lib.hid hO3
  have HX3 := Lib.hid hX3
  clear hL2 hO3 hX3
  -- fd
  have d0 := HO3.out.c0
  go_wp2_with fail
  refine (HF.out _).mono ?_
  rintro e w9 ⟨rfl, rfl⟩
  clear d0
  go_upto_if 75 with fail
  go_cut [5] (fun sv wx => ∃ L a l c, L = L2 ++ (if f = true then be fd 2 else []) ∧ l ≤ 1831 ∧ sv = .slice a l c ∧ Own wx H (.slice a l c) L ∧ Bs wx a l c L ∧ Ext H w wx ∧ OvAt wx H k c1 c2 c3 c4 c5 c6 c7 c8a c8l c8c ∧ OvAt wx X k (strOf ps) (strOf ts) fd at_ n til sn da dl dc ∧ Bs wx da dl dc ds ∧ H < wx.heap.size ∧ X < wx.heap.size)
  case first =>
    cases f
    · go_wp2_with fail
      go_meet
      exact ⟨L2, a2, l2, m2, by simp, by omega, rfl, ho3, hv3, hE3, HO3.out, HX3.out, hB3, hltH, hltX⟩
    · have g1 := HX3.out.c3
      go_wp2_with fail
      refine (ref_short a2 l2 m2 L2 fd _ hv3 (by unfold big; omega)).mono ?_
      rintro e w9 ⟨v9, rfl, ho9, hbc⟩
      have hE9 := hE3.step hbc
      have ho9 := ho9.base hE3.2
      have hlen : (L2 ++ be fd 2).length ≤ 1831 := by have := hv3.1; simp [be_length]; omega
      obtain ⟨N, hN⟩ : ∃ N, N = L2 ++ be fd 2 := ⟨_, rfl⟩
      rw [← hN] at ho9 hlen
      have HN := Lib.hid hN
      obtain ⟨l9, hl9⟩ : ∃ l, l = N.length := ⟨_, rfl⟩
      obtain ⟨a9, c9, rfl, hv9⟩ := ho9.bsn hl9.symm
      rw [← hl9] at hlen
      clear hN hl9
      go_wp2_with fail
      go_meet
      exact ⟨N, a9, l9, c9, by rw [HN.out]; simp, by exact hlen, rfl, ho9, hv9, hE9, HO3.out.below hbc hltH, HX3.out.below hbc hltX, hB3.below hbc, Nat.lt_of_lt_of_le hltH hbc.size, Nat.lt_of_lt_of_le hltX hbc.size⟩
  case rest =>
  clear ho3 hv3 hE3 hB3 hltH hltX HO3 HX3
  obtain ⟨L3, a3, l3, m3, hL3, hM3, rfl, ho3, hv3, hE3, hO3, hX3, hB3, hltH, hltX⟩ := hcut
  have HL3 := Lib.hid hL3
  have HO3 := Lib.hid hO3
  have HX3 := Lib.hid hX3
  clear hL3 hO3 hX3
  -- at
  have d0 := HO3.out.c0
  have hq := HQ.out.1
  go_upto_if 82 with fail
  go_cut [5] (fun sv wx => ∃ L a l c, L = L3 ++ (if q = true then (be at_ 2 ++ be n 2) else []) ∧ l ≤ 2441 ∧ sv = .slice a l c ∧ Own wx H (.slice a l c) L ∧ Bs wx a l c L ∧ Ext H w wx ∧ OvAt wx H k c1 c2 c3 c4 c5 c6 c7 c8a c8l c8c ∧ OvAt wx X k (strOf ps) (strOf ts) fd at_ n til sn da dl dc ∧ Bs wx da dl dc ds ∧ H < wx.heap.size ∧ X < wx.heap.size)
  case first =>
    cases q
    · go_wp2_with fail
      go_meet
      exact ⟨L3, a3, l3, m3, by simp, by omega, rfl, ho3, hv3, hE3, HO3.out, HX3.out, hB3, hltH, hltX⟩
    · have g1 := HX3.out.c4
      have g2 := HX3.out.c5
      have hOo := HO3.out
      have hXo := HX3.out
      have HV := Lib.hid hv3.1
      go_upto_region 16 with fail
      obtain ⟨wd, hwd⟩ : ∃ wd, wd = wc.drew := ⟨_, rfl⟩
      have hb : Below wc.heap.size wc wd := by rw [hwd]; exact (Below.refl _ _).drew
      have hB3 := hB3.below hb
      have hE3 := hE3.step hb
      have g1 := (hb.cell (p := ⟨X, 4, none⟩) hltX).trans g1
      have g2 := (hb.cell (p := ⟨X, 5, none⟩) hltX).trans g2
      have hOo := hOo.below hb hltH
      have hXo := hXo.below hb hltX
      have hltX := Nat.lt_of_lt_of_le hltX hb.size
      have hltH := Nat.lt_of_lt_of_le hltH hb.size
      have hv3 := hv3.below hb
      clear hb
      refine held_start (by kernel_rfl) (fun hHeld => ?_)
      rw [← hwd] at hHeld ⊢
      clear hwd
      refine held_take (i := 0) (v := ?_) 83 rfl (by kernel_rfl) (by kernel_rfl) (by kernel_rfl) (fun _ _ _ h => h) rfl (by assumption) (Or.inl ⟨by rfl, ?_⟩) ?_
      rotate_left
      · intro w hSw; go_simp; (try with_reducible rfl)
      simp only [List.set_cons_zero, List.set_cons_succ]
      refine held_take (i := 1) (v := ?_) 84 rfl (by kernel_rfl) (by kernel_rfl) (by kernel_rfl) (fun _ _ _ h => h) rfl (by assumption) (Or.inl ⟨by rfl, ?_⟩) ?_
      rotate_left
      · intro w hSw; go_simp; (try with_reducible rfl)
      simp only [List.set_cons_zero, List.set_cons_succ]
      refine held_take (i := 2) (v := ?_) 85 rfl (by kernel_rfl) (by kernel_rfl) (by kernel_rfl) (fun _ _ _ h => h) rfl (by assumption) (Or.inl ⟨by rfl, ?_⟩) ?_
      rotate_left
      · intro w hSw; obtain ⟨hc, hf⟩ := bcell hSw; go_simp; (try with_reducible rfl)
      simp only [List.set_cons_zero, List.set_cons_succ]
      refine held_take (i := 4) (v := ?_) 87 rfl (by kernel_rfl) (by kernel_rfl) (by kernel_rfl) (fun _ _ _ h => h) rfl (by assumption) (Or.inl ⟨by rfl, ?_⟩) ?_
      rotate_left
      · intro w hSw; go_simp; (try with_reducible rfl)
      simp only [List.set_cons_zero, List.set_cons_succ]
      refine held_take (i := 5) (v := ?_) 88 rfl (by kernel_rfl) (by kernel_rfl) (by kernel_rfl) (fun _ _ _ h => h) rfl (by assumption) (Or.inl ⟨by rfl, ?_⟩) ?_
      rotate_left
      · intro w hSw; obtain ⟨hc, hf⟩ := bcell hSw; go_simp; (try with_reducible rfl)
      simp only [List.set_cons_zero, List.set_cons_succ]
      refine wpAnyH_ready (rs := [3]) (by kernel_rfl) (by simp) ?_
      refine AllReadyH.cons rfl (fun K hK => ?_) AllReadyH.nil
      go_simp
      refine (ref_short a3 l3 m3 L3 at_ _ hv3 (by unfold big; omega)).mono ?_
      rintro e w8 ⟨v8, rfl, ho8, hb⟩
      have hB3 := hB3.below hb
      have hE3x := hE3
      have hE3 := hE3.step hb
      have g1 := (hb.cell (p := ⟨X, 4, none⟩) hltX).trans g1
      have g2 := (hb.cell (p := ⟨X, 5, none⟩) hltX).trans g2
      have hOo := hOo.below hb hltH
      have hXo := hXo.below hb hltX
      have hltX := Nat.lt_of_lt_of_le hltX hb.size
      have hltH := Nat.lt_of_lt_of_le hltH hb.size
      clear hv3 ho3
      have hl8 : (L3 ++ be at_ 2).length = l3 + 2 := by rw [List.length_append, be_length, HV.out]
      obtain ⟨a8, c8, rfl, hv8⟩ := ho8.bsn hl8
      clear ho8 hl8
      go_wp2_with fail
      refine hK.out _ _ hb (fun _ => held_next hb (fun hHeld2 => ?_))
      clear hK hHeld hb
      have hHeld := hHeld2
      clear hHeld2 K
      refine wpAnyH_ready (rs := [6]) (by kernel_rfl) (by simp) ?_
      refine AllReadyH.cons rfl (fun K hK => ?_) AllReadyH.nil
      go_simp
      refine (ref_short a8 (l3 + 2) c8 (L3 ++ be at_ 2) n _ (hv8) (by unfold big; omega)).mono ?_
      rintro e w9 ⟨v9, rfl, ho9, hb⟩
      have hB3 := hB3.below hb
      have hE3 := hE3.step hb
      have ho9 := ho9.base (Nat.le_of_lt hltH)
      have g1 := (hb.cell (p := ⟨X, 4, none⟩) hltX).trans g1
      have g2 := (hb.cell (p := ⟨X, 5, none⟩) hltX).trans g2
      have hOo := hOo.below hb hltH
      have hXo := hXo.below hb hltX
      have hltX := Nat.lt_of_lt_of_le hltX hb.size
      have hltH := Nat.lt_of_lt_of_le hltH hb.size
      have hlen : (L3 ++ be at_ 2 ++ be n 2).length ≤ 2441 := by rw [List.length_append, List.length_append, be_length, be_length, HV.out]; omega
      rw [List.append_assoc] at ho9 hlen
      obtain ⟨N, hN⟩ : ∃ N, N = L3 ++ (be at_ 2 ++ be n 2) := ⟨_, rfl⟩
      rw [← hN] at ho9 hlen
      have HN := Lib.hid hN
      obtain ⟨l9, hl9⟩ : ∃ l, l = N.length := ⟨_, rfl⟩
      obtain ⟨a9, c9, rfl, hv9⟩ := ho9.bsn hl9.symm
      rw [← hl9] at hlen
      clear hN hl9
      go_wp2_with fail
      refine hK.out _ _ hb (fun _ => held_next hb (fun hHeld2 => ?_))
      clear hK hHeld hb
      have hHeld := hHeld2
      clear hHeld2 K
      refine held_take (i := 7) (v := ?_) 5 rfl (by kernel_rfl) (by kernel_rfl) (by kernel_rfl) (fun _ _ _ h => h) rfl (by assumption) (Or.inl ⟨by rfl, ?_⟩) ?_
      rotate_left
      · intro w hSw; go_simp; (try with_reducible rfl)
      simp only [List.set_cons_zero, List.set_cons_succ]
      refine wpAnyH_done (by kernel_rfl) ?_ _
      go_wp2_with fail
      go_meet
      exact ⟨N, a9, l9, c9, by rw [HN.out]; simp, hlen, rfl, ho9, hv9, hE3, hOo, hXo, hB3, hltH, hltX⟩
  case rest =>
  clear d0 hq ho3 hv3 hE3 hB3 hltH hltX HO3 HX3
  obtain ⟨L4, a4, l4, m4, hL4, hM4, rfl, ho3, hv3, hE3, hO3, hX3, hB3, hltH, hltX⟩ := hcut
  have HL4 := Lib.hid hL4
  have HO3 := Lib.hid hO3
  have HX3 := Lib.hid hX3
  clear hL4 hO3 hX3
  -- til
  have d0 := HO3.out.c0
  go_wp2_with fail
  refine (HU.out _).mono ?_
  rintro e w9 ⟨rfl, rfl⟩
  clear d0
  go_upto_if 92 with fail
  go_cut [5] (fun sv wx => ∃ L a l c, L = L4 ++ (if u = true then be til 8 else []) ∧ l ≤ 3051 ∧ sv = .slice a l c ∧ Own wx H (.slice a l c) L ∧ Bs wx a l c L ∧ Ext H w wx ∧ OvAt wx H k c1 c2 c3 c4 c5 c6 c7 c8a c8l c8c ∧ OvAt wx X k (strOf ps) (strOf ts) fd at_ n til sn da dl dc ∧ Bs wx da dl dc ds ∧ H < wx.heap.size ∧ X < wx.heap.size)
  case first =>
    cases u
    · go_wp2_with fail
      go_meet
      exact ⟨L4, a4, l4, m4, by simp, by omega, rfl, ho3, hv3, hE3, HO3.out, HX3.out, hB3, hltH, hltX⟩
    · have g1 := HX3.out.c6
      go_wp2_with fail
      refine (ref_long a4 l4 m4 L4 til _ hv3 (by unfold big; omega)).mono ?_
      rintro e w9 ⟨v9, rfl, ho9, hbc⟩
      have hE9 := hE3.step hbc
      have ho9 := ho9.base hE3.2
      have hlen : (L4 ++ be til 8).length ≤ 3051 := by have := hv3.1; simp [be_length]; omega
      obtain ⟨N, hN⟩ : ∃ N, N = L4 ++ be til 8 := ⟨_, rfl⟩
      rw [← hN] at ho9 hlen
      have HN := Lib.hid hN
      obtain ⟨l9, hl9⟩ : ∃ l, l = N.length := ⟨_, rfl⟩
      obtain ⟨a9, c9, rfl, hv9⟩ := ho9.bsn hl9.symm
      rw [← hl9] at hlen
      clear hN hl9
      go_wp2_with fail
      go_meet
      exact ⟨N, a9, l9, c9, by rw [HN.out]; simp, by exact hlen, rfl, ho9, hv9, hE9, HO3.out.below hbc hltH, HX3.out.below hbc hltX, hB3.below hbc, Nat.lt_of_lt_of_le hltH hbc.size, Nat.lt_of_lt_of_le hltX hbc.size⟩
  case rest =>
  clear ho3 hv3 hE3 hB3 hltH hltX HO3 HX3
  obtain ⟨L5, a5, l5, m5, hL5, hM5, rfl, ho3, hv3, hE3, hO3, hX3, hB3, hltH, hltX⟩ := hcut
  have HL5 := Lib.hid hL5
  have HO3 := Lib.hid hO3
  have HX3 := Lib.hid hX3
  clear hL5 hO3 hX3
  -- snap
  have d0 := HO3.out.c0
  go_wp2_with fail
  refine (HS.out _).mono ?_
  rintro e w9 ⟨rfl, rfl⟩
  clear d0
  go_upto_if 99 with fail
  go_cut [5] (fun sv wx => ∃ L a l c, L = L5 ++ (if s = true then be sn 2 else []) ∧ l ≤ 3661 ∧ sv = .slice a l c ∧ Own wx H (.slice a l c) L ∧ Bs wx a l c L ∧ Ext H w wx ∧ OvAt wx H k c1 c2 c3 c4 c5 c6 c7 c8a c8l c8c ∧ OvAt wx X k (strOf ps) (strOf ts) fd at_ n til sn da dl dc ∧ Bs wx da dl dc ds ∧ H < wx.heap.size ∧ X < wx.heap.size)
  case first =>
    cases s
    · go_wp2_with fail
      go_meet
      exact ⟨L5, a5, l5, m5, by simp, by omega, rfl, ho3, hv3, hE3, HO3.out, HX3.out, hB3, hltH, hltX⟩
    · have g1 := HX3.out.c7
      go_wp2_with fail
      refine (ref_short a5 l5 m5 L5 sn _ hv3 (by unfold big; omega)).mono ?_
      rintro e w9 ⟨v9, rfl, ho9, hbc⟩
      have hE9 := hE3.step hbc
      have ho9 := ho9.base hE3.2
      have hlen : (L5 ++ be sn 2).length ≤ 3661 := by have := hv3.1; simp [be_length]; omega
      obtain ⟨N, hN⟩ : ∃ N, N = L5 ++ be sn 2 := ⟨_, rfl⟩
      rw [← hN] at ho9 hlen
      have HN := Lib.hid hN
      obtain ⟨l9, hl9⟩ : ∃ l, l = N.length := ⟨_, rfl⟩
      obtain ⟨a9, c9, rfl, hv9⟩ := ho9.bsn hl9.symm
      rw [← hl9] at hlen
      clear hN hl9
      go_wp2_with fail
      go_meet
      exact ⟨N, a9, l9, c9, by rw [HN.out]; simp, by exact hlen, rfl, ho9, hv9, hE9, HO3.out.below hbc hltH, HX3.out.below hbc hltX, hB3.below hbc, Nat.lt_of_lt_of_le hltH hbc.size, Nat.lt_of_lt_of_le hltX hbc.size⟩
  case rest =>
  clear ho3 hv3 hE3 hB3 hltH hltX HO3 HX3
  obtain ⟨L6, a6, l6, m6, hL6, hM6, rfl, ho3, hv3, hE3, hO3, hX3, hB3, hltH, hltX⟩ := hcut
  have HL6 := Lib.hid hL6
  have HO3 := Lib.hid hO3
  have HX3 := Lib.hid hX3
  clear hL6 hO3 hX3
  -- data
  have d0 := HO3.out.c0
  have hq := HQ.out.2
  go_upto_if 106 with fail
  go_cut [5] (fun sv wx => ∃ L a l c, L = L6 ++ (if d = true then lenBytes ds else []) ∧ l ≤ 4271 ∧ sv = .slice a l c ∧ Own wx H (.slice a l c) L ∧ Bs wx a l c L ∧ Ext H w wx ∧ OvAt wx H k c1 c2 c3 c4 c5 c6 c7 c8a c8l c8c ∧ OvAt wx X k (strOf ps) (strOf ts) fd at_ n til sn da dl dc ∧ Bs wx da dl dc ds ∧ H < wx.heap.size ∧ X < wx.heap.size)
  case first =>
    cases d
    · go_wp2_with fail
      go_meet
      exact ⟨L6, a6, l6, m6, by simp, by omega, rfl, ho3, hv3, hE3, HO3.out, HX3.out, hB3, hltH, hltX⟩
    · have g1 := HX3.out.c8
      go_wp2_with fail
      refine (ref_bytes a6 l6 m6 L6 _ _ _ ds _ hv3 hB3 (by unfold big; omega)).mono ?_
      rintro e w9 ⟨v9, rfl, ho9, hbc⟩
      have hE9 := hE3.step hbc
      have ho9 := ho9.base hE3.2
      have hlen : (L6 ++ lenBytes ds).length ≤ 4271 := by have := hv3.1; have := HDL.out; simp [lenBytes, be_length]; omega
      obtain ⟨N, hN⟩ : ∃ N, N = L6 ++ lenBytes ds := ⟨_, rfl⟩
      rw [← hN] at ho9 hlen
      have HN := Lib.hid hN
      obtain ⟨l9, hl9⟩ : ∃ l, l = N.length := ⟨_, rfl⟩
      obtain ⟨a9, c9, rfl, hv9⟩ := ho9.bsn hl9.symm
      rw [← hl9] at hlen
      clear hN hl9
      go_wp2_with fail
      go_meet
      exact ⟨N, a9, l9, c9, by rw [HN.out]; simp, by exact hlen, rfl, ho9, hv9, hE9, HO3.out.below hbc hltH, HX3.out.below hbc hltX, hB3.below hbc, Nat.lt_of_lt_of_le hltH hbc.size, Nat.lt_of_lt_of_le hltX hbc.size⟩
  case rest =>
  clear d0 hq ho3 hv3 hE3 hB3 hltH hltX HO3 HX3
  obtain ⟨L7, a7, l7, m7, hL7, hM7, rfl, ho3, hv3, hE3, hO3, hX3, hB3, hltH, hltX⟩ := hcut
  have HL7 := Lib.hid hL7
  have HO3 := Lib.hid hO3
  have HX3 := Lib.hid hX3
  clear hL7 hO3 hX3
  go_wp2_with fail
  go_ret2
  have hLL : (⟨k, ps, ts, fd, at_, n, til, sn, ds⟩ : Ov).bytes ⟨p, t, f, q, u, s, d⟩ = L7 := by
    rw [HL7.out, HL6.out, HL5.out, HL4.out, HL3.out, HL2.out, HL1.out, HL0.out]
    unfold Ov.bytes Ov.tail
    simp only [Int.toNat_natCast]
    cases q <;> simp [List.append_assoc]
  rw [← HH.out]
  exact ⟨_, rfl, by rw [hLL]; exact ho3, hE3.1⟩

end Go.Proofs.Ytphjdlckoddgmaa
