/- The contract of op.Encode. -/
import Derived.Test.YtphjdlckoddgmaaOpRight
import Derived.Test.YtphjdlckoddgmaaConv
import Derived.Deep.DeepCutAuto
namespace Go.Proofs.Ytphjdlckoddgmaa
open Go.RowKit

theorem cells_at {w : World} {b : Nat} {cs : Array Value} {t : TypeId} {fr : Nat × Nat} (h : w.heap[b]? = some (.cells cs t fr)) (i : Nat) : w.cell? ⟨b, i, none⟩ = cs[i]? := by
  simp only [World.cell?, h]; rfl
/-- the cells of an operation, in a block -/
structure OvAt (w : World) (b : Nat) (k : Int) (ps ts : ByteArray) (fd at_ n : Int) (til : Nat) (sn : Int) (da : Option Addr) (dl dc : Nat) : Prop where
  c0 : w.cell? ⟨b, 0, none⟩ = some (.int .i64 k)
  c1 : w.cell? ⟨b, 1, none⟩ = some (.string ps)
  c2 : w.cell? ⟨b, 2, none⟩ = some (.string ts)
  c3 : w.cell? ⟨b, 3, none⟩ = some (.int .i64 fd)
  c4 : w.cell? ⟨b, 4, none⟩ = some (.int .i64 at_)
  c5 : w.cell? ⟨b, 5, none⟩ = some (.int .i64 n)
  c6 : w.cell? ⟨b, 6, none⟩ = some (.int .u64 (til : Int))
  c7 : w.cell? ⟨b, 7, none⟩ = some (.int .i64 sn)
  c8 : w.cell? ⟨b, 8, none⟩ = some (.slice da dl dc)
theorem OvAt.of {w : World} {b : Nat} {k : Int} {ps ts : ByteArray} {fd at_ n : Int} {til : Nat} {sn : Int} {da : Option Addr} {dl dc : Nat} {t : TypeId} {fr : Nat × Nat}
    (h : w.heap[b]? = some (.cells (ovCells k ps ts fd at_ n til sn da dl dc) t fr)) : OvAt w b k ps ts fd at_ n til sn da dl dc :=
  ⟨cells_at h 0, cells_at h 1, cells_at h 2, cells_at h 3, cells_at h 4, cells_at h 5, cells_at h 6, cells_at h 7, cells_at h 8⟩
structure AskAt (w : World) (b : Nat) (p t f q u s d : Bool) : Prop where
  c0 : w.cell? ⟨b, 0, none⟩ = some (.bool p)
  c1 : w.cell? ⟨b, 1, none⟩ = some (.bool t)
  c2 : w.cell? ⟨b, 2, none⟩ = some (.bool f)
  c3 : w.cell? ⟨b, 3, none⟩ = some (.bool q)
  c4 : w.cell? ⟨b, 4, none⟩ = some (.bool u)
  c5 : w.cell? ⟨b, 5, none⟩ = some (.bool s)
  c6 : w.cell? ⟨b, 6, none⟩ = some (.bool d)
theorem AskAt.of {w : World} {b : Nat} {p t f q u s d : Bool} {ty : TypeId} {fr : Nat × Nat}
    (h : w.heap[b]? = some (.cells #[.bool p, .bool t, .bool f, .bool q, .bool u, .bool s, .bool d] ty fr)) : AskAt w b p t f q u s d :=
  ⟨cells_at h 0, cells_at h 1, cells_at h 2, cells_at h 3, cells_at h 4, cells_at h 5, cells_at h 6⟩

theorem OvAt.below {w w' : World} {b : Nat} {k : Int} {ps ts : ByteArray} {fd at_ n : Int} {til : Nat} {sn : Int} {da : Option Addr} {dl dc : Nat}
    (h : OvAt w b k ps ts fd at_ n til sn da dl dc) {B : Nat} (hb : Below B w w') (hlt : b < B) : OvAt w' b k ps ts fd at_ n til sn da dl dc :=
  have e (i : Nat) : w'.cell? ⟨b, i, none⟩ = w.cell? ⟨b, i, none⟩ := hb.cell (p := ⟨b, i, none⟩) hlt
  ⟨(e 0).trans h.c0, (e 1).trans h.c1, (e 2).trans h.c2, (e 3).trans h.c3, (e 4).trans h.c4, (e 5).trans h.c5, (e 6).trans h.c6, (e 7).trans h.c7, (e 8).trans h.c8⟩
theorem AskAt.below {w w' : World} {b : Nat} {p t f q u s d : Bool} (h : AskAt w b p t f q u s d) {B : Nat} (hb : Below B w w') (hlt : b < B) : AskAt w' b p t f q u s d :=
  have e (i : Nat) : w'.cell? ⟨b, i, none⟩ = w.cell? ⟨b, i, none⟩ := hb.cell (p := ⟨b, i, none⟩) hlt
  ⟨(e 0).trans h.c0, (e 1).trans h.c1, (e 2).trans h.c2, (e 3).trans h.c3, (e 4).trans h.c4, (e 5).trans h.c5, (e 6).trans h.c6⟩
/-- what a right operation's parts are -/
theorem opFacts {p t f q u s d : Bool} {pl tl dl : Nat} {fd at_ n sn : Int} (h : rightN ⟨p, t, f, q, u, s, d⟩ pl tl dl fd at_ n sn = 0) :
    (p = true → pl ≤ 200) ∧ (t = true → tl ≤ 200) ∧ (f = true → ∃ m : Nat, fd = m ∧ m < 65536) ∧ (q = true → (∃ m : Nat, at_ = m ∧ m < 65536) ∧ ∃ m : Nat, n = m ∧ m < 65536) ∧ (s = true → ∃ m : Nat, sn = m ∧ m < 65536) ∧ (d = true → dl ≤ 600) := by
  unfold rightN at h
  split at h
  · cases h
  next h1 =>
    split at h
    · cases h
    next h2 =>
      simp only [not_or] at h1 h2
      refine ⟨fun e => Nat.not_lt.1 fun h' => h1.1 ⟨e, h'⟩, fun e => Nat.not_lt.1 fun h' => h1.2.1 ⟨e, h'⟩, fun e => shortI_nat (by have h9 := fun h' => h2.1 ⟨e, h'⟩; simpa using h9),
        fun e => ⟨shortI_nat (by have h9 := fun h' => h2.2.1 ⟨e, .inl h'⟩; simpa using h9), shortI_nat (by have h9 := fun h' => h2.2.1 ⟨e, .inr h'⟩; simpa using h9)⟩,
        fun e => shortI_nat (by have h9 := fun h' => h2.2.2 ⟨e, h'⟩; simpa using h9), fun e => Nat.not_lt.1 fun h' => h1.2.2 ⟨e, h'⟩⟩

set_option maxHeartbeats 4000000 in
set_option maxRecDepth 100000 in
theorem openc_ok (k : Nat) (ps ts : List UInt8) (fd at_ n : Int) (til : Nat) (sn : Int) (da : Option Addr) (dl dc : Nat) (ds : List UInt8) (a : Ask) (ha : asksOf k = some a) (w : World) (hB : Bs w da dl dc ds)
    (hr : rightN a ps.length ts.length ds.length fd at_ n sn = 0) :
    Calls Try.prog 17 #[.agg (ovCells k (strOf ps) (strOf ts) fd at_ n til sn da dl dc)] w fun e w' => ∃ v, e = .returned (.tuple #[v, .int .i64 0]) ∧ Own w' w.heap.size v ((⟨k, ps, ts, fd, at_, n, til, sn, ds⟩ : Ov).bytes a) ∧ Below w.heap.size w w' := by
  have kc := run_bytes ps
  have kd := run_bytes ts
  have HA := Lib.hid (fun w => asks_some k a ha w)
  obtain ⟨H, hH⟩ : ∃ H, H = w.heap.size := ⟨_, rfl⟩
  have HH := Lib.hid hH
  obtain ⟨p, t, f, q, u, s, d⟩ := a
  unfold ovCells Ask.cells at *
  simp only at HA
  go_enter Try.func17, Try.ntmps17
  go_upto_region 1 with fail
  go_wp2_with fail
  refine (HA.out _).mono ?_
  rintro e w1 ⟨rfl, hb1⟩
  have hHb : (w.alloc (.cells (ovCells k (strOf ps) (strOf ts) fd at_ n til sn da dl dc) 25)).heap[w.heap.size]? = some (.cells (ovCells k (strOf ps) (strOf ts) fd at_ n til sn da dl dc) 25 (0, 0)) := heap_alloc_new w _
  have hHb1 := (hb1.block w.heap.size (size_alloc _ _)).trans hHb
  have hlt1 : w.heap.size < w1.heap.size := Nat.lt_of_lt_of_le (size_alloc _ _) hb1.size
  have hE2 := (((Ext.refl w).alloc (.cells (ovCells k (strOf ps) (strOf ts) fd at_ n til sn da dl dc) 25)).step hb1).alloc (.cells #[.bool p, .bool t, .bool f, .bool q, .bool u, .bool s, .bool d] 63)
  have hHb2 := (Below.heap_alloc w1 (.cells #[.bool p, .bool t, .bool f, .bool q, .bool u, .bool s, .bool d] 63) _ hlt1).trans hHb1
  have hA2 : (w1.alloc (.cells #[.bool p, .bool t, .bool f, .bool q, .bool u, .bool s, .bool d] 63)).heap[w1.heap.size]? = _ := heap_alloc_new w1 (.cells #[.bool p, .bool t, .bool f, .bool q, .bool u, .bool s, .bool d] 63)
  have hO := OvAt.of hHb2
  have hK := AskAt.of hA2
  have hlt2 : w1.heap.size < (w1.alloc (.cells #[.bool p, .bool t, .bool f, .bool q, .bool u, .bool s, .bool d] 63)).heap.size := size_alloc _ _
  have hltH : w.heap.size < (w1.alloc (.cells #[.bool p, .bool t, .bool f, .bool q, .bool u, .bool s, .bool d] 63)).heap.size := Nat.lt_trans hlt1 hlt2
  have hB2 := (((hB.alloc (.cells (ovCells k (strOf ps) (strOf ts) fd at_ n til sn da dl dc) 25))).below hb1).alloc (.cells #[.bool p, .bool t, .bool f, .bool q, .bool u, .bool s, .bool d] 63)
  clear hHb hHb1 hHb2 hA2 hb1 hB HA
  rw [← hH] at hO hE2 hltH ⊢
  clear hH hlt1
  go_upto_region 2 with fail
  generalize w1.alloc (.cells #[.bool p, .bool t, .bool f, .bool q, .bool u, .bool s, .bool d] 63) = w2 at *
  generalize w1.heap.size = A at *
  have HR := Lib.hid (right_any k (strOf ps) (strOf ts) fd at_ n til sn da dl dc ⟨p, t, f, q, u, s, d⟩ k ha w2)
  have hsz : ∀ xs : List UInt8, (strOf xs).size = xs.length := fun xs => rfl
  have hdl : ds.length = dl := hB2.1
  rw [hsz, hsz, ← hdl, hr] at HR
  unfold ovCells Ask.cells at HR
  simp only at HR
  rw [hdl, show ((0 : Nat) : Int) = 0 from rfl] at HR
  clear hdl hsz
  have HO := Lib.hid hO
  have HK := Lib.hid hK
  obtain ⟨c0, c1, c2, c3, c4, c5, c6, c7, c8⟩ := hO
  obtain ⟨g0, g1, g2, g3, g4, g5, g6⟩ := hK
  go_wp2_with fail
  refine HR.out.mono ?_
  rintro e w3 ⟨rfl, hb3⟩
  have hE3 := hE2.step hb3
  have hltA := Nat.lt_of_lt_of_le hlt2 hb3.size
  have hltH := Nat.lt_of_lt_of_le hltH hb3.size
  have hO : OvAt w3 H k (strOf ps) (strOf ts) fd at_ n til sn da dl dc := HO.out.below hb3 (by assumption)
  have hK : AskAt w3 A p t f q u s d := HK.out.below hb3 hlt2
  have hB3 := hB2.below hb3
  have hF := opFacts hr
  have hk17 : k ≤ 17 := by have := asksOf_range ha; omega
  have HF := Lib.hid hF
  clear c0 c1 c2 c3 c4 c5 c6 c7 c8 g0 g1 g2 g3 g4 g5 g6 HR HO HK hb3 hE2 hB2 hlt2 hr hF ha
  go_upto_region 7 with fail
  go_wp2_with fail
  refine (wnew_any _).mono ?_
  rintro e w4 ⟨rfl, hW1, hb1⟩
  have hI : WI w3 w3.heap.size w3.heap.size w4 [] := ⟨(Ext.refl w3).step hb1, none, hW1⟩
  obtain ⟨P, hP⟩ : ∃ P, P = w3.heap.size := ⟨_, rfl⟩
  rw [← hP] at hI hltA hltH ⊢
  have HP := Lib.hid hP
  clear hW1 hb1 hP
  have HO := Lib.hid hO
  have HK := Lib.hid hK
  clear hO hK
  have d0 := hI.cell hltH HO.out.c0
  go_wp2_with fail
  refine (wbyte_ok k hI (by omega) (by unfold big; decide)).mono ?_
  rintro e w5 ⟨rfl, hI5⟩
  rw [List.nil_append] at hI5
  clear d0 hI
  have dA := hI5.cell hltA HK.out.c0
  have d1 := hI5.cell hltH HO.out.c1
  go_upto_if 28 with fail
  go_cut [] (fun wx => ∃ M, M = be k 1 ++ (if p = true then lenBytes ps else []) ∧ M.length ≤ 611 ∧ WI w3 P P wx M)
  case first =>
    cases p
    · go_wp2_with fail
      go_meet
      exact ⟨_, rfl, by simp [be_length], by simpa using hI5⟩
    · go_wp2_with fail
      refine (wbytes_new hI5 (convW_below _ ps) (convW_bs _ ps (by have := HF.out.1 (by trivial); unfold maxLen; omega)) (by (try simp [be_length]); unfold big; omega)).mono ?_
      rintro e w9 ⟨rfl, hI9⟩
      go_wp2_with fail
      go_meet
      have hlx := HF.out.1 (by trivial)
      exact ⟨_, rfl, by simp [be_length, lenBytes]; omega, hI9⟩
  case rest =>
  clear dA d1 hI5
  obtain ⟨L1, hL1, hM1, hI6⟩ := hcut
  have HL1 := Lib.hid hL1
  clear hL1
  have dA := hI6.cell hltA HK.out.c1
  have d1 := hI6.cell hltH HO.out.c2
  go_upto_if 35 with fail
  go_cut [] (fun wx => ∃ M, M = L1 ++ (if t = true then lenBytes ts else []) ∧ M.length ≤ 1221 ∧ WI w3 P P wx M)
  case first =>
    cases t
    · go_wp2_with fail
      go_meet
      exact ⟨_, rfl, by simp; omega, by simpa using hI6⟩
    · go_wp2_with fail
      refine (wbytes_new hI6 (convW_below _ ts) (convW_bs _ ts (by have := HF.out.2.1 (by trivial); unfold maxLen; omega)) (by (try simp [be_length]); unfold big; omega)).mono ?_
      rintro e w9 ⟨rfl, hI9⟩
      go_wp2_with fail
      go_meet
      have hlx := HF.out.2.1 (by trivial)
      exact ⟨_, rfl, by simp [be_length, lenBytes]; omega, hI9⟩
  case rest =>
  clear dA d1 hI6
  obtain ⟨L2, hL2, hM2, hI7⟩ := hcut
  have HL2 := Lib.hid hL2
  clear hL2
  have dA := hI7.cell hltA HK.out.c2
  have d1 := hI7.cell hltH HO.out.c3
  go_upto_if 42 with fail
  go_cut [] (fun wx => ∃ M, M = L2 ++ (if f = true then be fd.toNat 2 else []) ∧ M.length ≤ 1831 ∧ WI w3 P P wx M)
  case first =>
    cases f
    · go_wp2_with fail
      go_meet
      exact ⟨_, rfl, by simp; omega, by simpa using hI7⟩
    · go_wp2_with fail
      obtain ⟨m, hm, hmn⟩ := HF.out.2.2.1 (by trivial)
      subst hm
      refine (wshort_ok m hI7 (by omega) (by (try simp [be_length]); unfold big; omega)).mono ?_
      rintro e w9 ⟨rfl, hI9⟩
      go_wp2_with fail
      go_meet
      exact ⟨_, rfl, by simp [be_length]; omega, hI9⟩
  case rest =>
  clear dA d1 hI7
  obtain ⟨L3, hL3, hM3, hI8⟩ := hcut
  have HL3 := Lib.hid hL3
  clear hL3
  have dA := hI8.cell hltA HK.out.c3
  have d1 := hI8.cell hltH HO.out.c4
  have d2 := hI8.cell hltH HO.out.c5
  go_upto_if 48 with fail
  go_cut [] (fun wx => ∃ M, M = L3 ++ (if q = true then (be at_.toNat 2 ++ be n.toNat 2) else []) ∧ M.length ≤ 2441 ∧ WI w3 P P wx M)
  case first =>
    cases q
    · go_wp2_with fail
      go_meet
      exact ⟨_, rfl, by simp; omega, by simpa using hI8⟩
    · go_wp2_with fail
      obtain ⟨⟨m, hm, hmn⟩, m2, hm2, hmn2⟩ := HF.out.2.2.2.1 (by trivial)
      subst hm hm2
      refine (wshort_ok m hI8 (by omega) (by (try simp [be_length]); unfold big; omega)).mono ?_
      rintro e w8 ⟨rfl, hI8⟩
      have d2 := hI8.cell hltH HO.out.c5
      go_wp2_with fail
      refine (wshort_ok m2 hI8 (by omega) (by (try simp [be_length]); unfold big; omega)).mono ?_
      rintro e w9 ⟨rfl, hI9⟩
      go_wp2_with fail
      go_meet
      rw [List.append_assoc] at hI9
      exact ⟨_, rfl, by simp [be_length]; omega, hI9⟩
  case rest =>
  clear dA d1 d2 hI8
  obtain ⟨L4, hL4, hM4, hI9⟩ := hcut
  have HL4 := Lib.hid hL4
  clear hL4
  have dA := hI9.cell hltA HK.out.c4
  have d1 := hI9.cell hltH HO.out.c6
  go_upto_if 58 with fail
  go_cut [] (fun wx => ∃ M, M = L4 ++ (if u = true then be til 8 else []) ∧ M.length ≤ 3051 ∧ WI w3 P P wx M)
  case first =>
    cases u
    · go_wp2_with fail
      go_meet
      exact ⟨_, rfl, by simp; omega, by simpa using hI9⟩
    · go_wp2_with fail
      refine (wlong_ok til hI9 (by (try simp [be_length]); unfold big; omega)).mono ?_
      rintro e w9 ⟨rfl, hI9⟩
      go_wp2_with fail
      go_meet
      exact ⟨_, rfl, by simp [be_length]; omega, hI9⟩
  case rest =>
  clear dA d1 hI9
  obtain ⟨L5, hL5, hM5, hI10⟩ := hcut
  have HL5 := Lib.hid hL5
  clear hL5
  have dA := hI10.cell hltA HK.out.c5
  have d1 := hI10.cell hltH HO.out.c7
  go_upto_if 64 with fail
  go_cut [] (fun wx => ∃ M, M = L5 ++ (if s = true then be sn.toNat 2 else []) ∧ M.length ≤ 3661 ∧ WI w3 P P wx M)
  case first =>
    cases s
    · go_wp2_with fail
      go_meet
      exact ⟨_, rfl, by simp; omega, by simpa using hI10⟩
    · go_wp2_with fail
      obtain ⟨m, hm, hmn⟩ := HF.out.2.2.2.2.1 (by trivial)
      subst hm
      refine (wshort_ok m hI10 (by omega) (by (try simp [be_length]); unfold big; omega)).mono ?_
      rintro e w9 ⟨rfl, hI9⟩
      go_wp2_with fail
      go_meet
      exact ⟨_, rfl, by simp [be_length]; omega, hI9⟩
  case rest =>
  clear dA d1 hI10
  obtain ⟨L6, hL6, hM6, hI11⟩ := hcut
  have HL6 := Lib.hid hL6
  clear hL6
  have dA := hI11.cell hltA HK.out.c6
  have d1 := hI11.cell hltH HO.out.c8
  go_upto_if 70 with fail
  go_cut [] (fun wx => ∃ M, M = L6 ++ (if d = true then lenBytes ds else []) ∧ M.length ≤ 4271 ∧ WI w3 P P wx M)
  case first =>
    cases d
    · go_wp2_with fail
      go_meet
      exact ⟨_, rfl, by simp; omega, by simpa using hI11⟩
    · go_wp2_with fail
      refine (wbytes_ok hI11 HP.out.symm hB3 (by (try simp [be_length]); unfold big; omega)).mono ?_
      rintro e w9 ⟨rfl, hI9⟩
      go_wp2_with fail
      go_meet
      have hlx := HF.out.2.2.2.2.2 (by trivial)
      exact ⟨_, rfl, by simp [be_length, lenBytes]; omega, hI9⟩
  case rest =>
  clear dA d1 hI11
  obtain ⟨L7, hL7, hM7, hI12⟩ := hcut
  have HL7 := Lib.hid hL7
  clear hL7
  obtain ⟨hE12, g, hW12⟩ := hI12
  go_wp2_with fail
  refine (wdone_any P P g _ _ hW12 (by unfold big; omega)).mono ?_
  rintro e w13 ⟨v, rfl, ho, hb13⟩
  go_wp2_with fail
  go_ret2
  have hE13 := (hE3.to (hE12.1.mono (Nat.le_of_lt hltH))).step hb13
  have hLL : (⟨k, ps, ts, fd, at_, n, til, sn, ds⟩ : Ov).bytes ⟨p, t, f, q, u, s, d⟩ = L7 := by
    rw [HL7.out, HL6.out, HL5.out, HL4.out, HL3.out, HL2.out, HL1.out]
    unfold Ov.bytes Ov.tail
    simp only [Int.toNat_natCast]
    cases q <;> simp [List.append_assoc]
  rw [← HH.out]
  exact ⟨v, rfl, by rw [hLL]; exact ho.base (hE3.to (hE12.1.mono (Nat.le_of_lt hltH))).2, hE13.1⟩
set_option maxHeartbeats 4000000 in
set_option maxRecDepth 100000 in
theorem openc_kind (k : Int) (ps ts : ByteArray) (fd at_ n : Int) (til : Nat) (sn : Int) (da : Option Addr) (dl dc : Nat) (ha : asksOf k = none) (w : World) :
    Calls Try.prog 17 #[.agg (ovCells k ps ts fd at_ n til sn da dl dc)] w fun e w' => e = .returned (.tuple #[.slice none 0 0, .int .i64 30]) ∧ Below w.heap.size w w' := by
  have HA := Lib.hid (fun w => asks_none k ha w)
  unfold ovCells Ask.cells at *
  simp only at HA
  clear ha
  go_enter Try.func17, Try.ntmps17
  go_upto_region 1 with fail
  go_wp2_with fail
  refine (HA.out _).mono ?_
  rintro e w1 ⟨rfl, hb1⟩
  go_wp2_with fail
  go_ret2
  exact ⟨rfl, ((((Ext.refl w).alloc _).step hb1).alloc _).1⟩
set_option maxHeartbeats 4000000 in
set_option maxRecDepth 100000 in
theorem openc_wrong (k : Int) (ps ts : ByteArray) (fd at_ n : Int) (til : Nat) (sn : Int) (da : Option Addr) (dl dc : Nat) (a : Ask) (ha : asksOf k = some a) (w : World) (r : Nat) (hr : rightN a ps.size ts.size dl fd at_ n sn = r) (h0 : r ≠ 0) :
    Calls Try.prog 17 #[.agg (ovCells k ps ts fd at_ n til sn da dl dc)] w fun e w' => e = .returned (.tuple #[.slice none 0 0, .int .i64 (r : Int)]) ∧ Below w.heap.size w w' := by
  have HA := Lib.hid (fun w => asks_some k a ha w)
  obtain ⟨H, hH⟩ : ∃ H, H = w.heap.size := ⟨_, rfl⟩
  have HH := Lib.hid hH
  obtain ⟨p, t, f, q, u, s, d⟩ := a
  have h1 : ((r : Int) == 0) = false := by simp; omega
  have h2 : ((r : Int) != 0) = true := by rw [bne, h1]; rfl
  clear h0 h1
  unfold ovCells Ask.cells at *
  simp only at HA
  go_enter Try.func17, Try.ntmps17
  go_upto_region 1 with fail
  go_wp2_with fail
  refine (HA.out _).mono ?_
  rintro e w1 ⟨rfl, hb1⟩
  have hHb : (w.alloc (.cells (ovCells k ps ts fd at_ n til sn da dl dc) 25)).heap[w.heap.size]? = some (.cells (ovCells k ps ts fd at_ n til sn da dl dc) 25 (0, 0)) := heap_alloc_new w _
  have hHb1 := (hb1.block w.heap.size (size_alloc _ _)).trans hHb
  have hlt1 : w.heap.size < w1.heap.size := Nat.lt_of_lt_of_le (size_alloc _ _) hb1.size
  have hE2 := (((Ext.refl w).alloc (.cells (ovCells k ps ts fd at_ n til sn da dl dc) 25)).step hb1).alloc (.cells #[.bool p, .bool t, .bool f, .bool q, .bool u, .bool s, .bool d] 63)
  have hHb2 := (Below.heap_alloc w1 (.cells #[.bool p, .bool t, .bool f, .bool q, .bool u, .bool s, .bool d] 63) _ hlt1).trans hHb1
  have hA2 : (w1.alloc (.cells #[.bool p, .bool t, .bool f, .bool q, .bool u, .bool s, .bool d] 63)).heap[w1.heap.size]? = _ := heap_alloc_new w1 (.cells #[.bool p, .bool t, .bool f, .bool q, .bool u, .bool s, .bool d] 63)
  have hO := OvAt.of hHb2
  have hK := AskAt.of hA2
  have hlt2 : w1.heap.size < (w1.alloc (.cells #[.bool p, .bool t, .bool f, .bool q, .bool u, .bool s, .bool d] 63)).heap.size := size_alloc _ _
  have hltH : w.heap.size < (w1.alloc (.cells #[.bool p, .bool t, .bool f, .bool q, .bool u, .bool s, .bool d] 63)).heap.size := Nat.lt_trans hlt1 hlt2
  clear hHb hHb1 hHb2 hA2 hb1 HA
  rw [← hH] at hO hE2 hltH ⊢
  clear hH hlt1
  go_upto_region 2 with fail
  generalize w1.alloc (.cells #[.bool p, .bool t, .bool f, .bool q, .bool u, .bool s, .bool d] 63) = w2 at *
  generalize w1.heap.size = A at *
  have HR := Lib.hid (right_any k ps ts fd at_ n til sn da dl dc ⟨p, t, f, q, u, s, d⟩ k ha w2)
  rw [hr] at HR
  unfold ovCells Ask.cells at HR
  simp only at HR
  clear hr ha
  obtain ⟨c0, c1, c2, c3, c4, c5, c6, c7, c8⟩ := hO
  obtain ⟨g0, g1, g2, g3, g4, g5, g6⟩ := hK
  go_wp2_with fail
  refine HR.out.mono ?_
  rintro e w3 ⟨rfl, hb3⟩
  have hE3 := hE2.step hb3
  clear c0 c1 c2 c3 c4 c5 c6 c7 c8 g0 g1 g2 g3 g4 g5 g6 HR
  go_wp2_with fail
  go_ret2
  rw [← HH.out]
  exact ⟨rfl, hE3.1⟩

theorem openc_any (k : Int) (ps ts : List UInt8) (fd at_ n : Int) (til : Nat) (sn : Int) (da : Option Addr) (dl dc : Nat) (ds : List UInt8) (w : World) (hB : Bs w da dl dc ds) :
    Calls Try.prog 17 #[.agg (ovCells k (strOf ps) (strOf ts) fd at_ n til sn da dl dc)] w fun e w' => ∃ v, e = .returned (.tuple #[v, .int .i64 ((opEnc ⟨k, ps, ts, fd, at_, n, til, sn, ds⟩).2 : Nat)]) ∧
      Own w' w.heap.size v (opEnc ⟨k, ps, ts, fd, at_, n, til, sn, ds⟩).1 ∧ Below w.heap.size w w' := by
  unfold opEnc
  simp only
  cases ha : asksOf k with
  | none =>
    refine (openc_kind k (strOf ps) (strOf ts) fd at_ n til sn da dl dc ha w).mono ?_
    rintro e w' ⟨rfl, hb⟩
    exact ⟨_, rfl, Own.nil _ _, hb⟩
  | some a =>
    have hdl := hB.1
    have e1 : (⟨k, ps, ts, fd, at_, n, til, sn, ds⟩ : Ov).right a = rightN a ps.length ts.length ds.length fd at_ n sn := rfl
    simp only
    rw [e1]
    by_cases hr : rightN a ps.length ts.length ds.length fd at_ n sn = 0
    · rw [if_pos hr]
      obtain ⟨m, rfl⟩ : ∃ m : Nat, k = (m : Int) := ⟨k.toNat, by have := asksOf_range ha; omega⟩
      exact openc_ok m ps ts fd at_ n til sn da dl dc ds a ha w hB hr
    · rw [if_neg hr]
      refine (openc_wrong k (strOf ps) (strOf ts) fd at_ n til sn da dl dc a ha w _ (by rw [← hdl]; rfl) hr).mono ?_
      rintro e w' ⟨rfl, hb⟩
      exact ⟨_, rfl, Own.nil _ _, hb⟩

end Go.Proofs.Ytphjdlckoddgmaa
