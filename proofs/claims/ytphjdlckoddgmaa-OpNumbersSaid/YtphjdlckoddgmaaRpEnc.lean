/- The contract of op.EncodeReply. -/
import Derived.Test.YtphjdlckoddgmaaRpFine
import Derived.Test.YtphjdlckoddgmaaOpEnc
import Derived.Test.YtphjdlckoddgmaaTools
import Derived.Deep.DeepCutAuto
namespace Go.Proofs.Ytphjdlckoddgmaa
open Go.RowKit

def Nd.same (x y : Nd) : Bool := x.id == y.id && (x.kind == y.kind && (x.links == y.links && (x.size == y.size && (x.til == y.til && x.closed == y.closed))))
theorem Nd.same_iff (x y : Nd) : x.same y = true ↔ x = y := by
  obtain ⟨i0, i1, i2, i3, i4, i5⟩ := x
  obtain ⟨j0, j1, j2, j3, j4, j5⟩ := y
  simp [Nd.same]
theorem Nd.same_zero (x : Nd) : x.same zeroNd = decide x.isZero := by
  rw [Bool.eq_iff_iff, Nd.same_iff, decide_eq_true_iff, Nd.isZero_iff]
theorem run_eq_nodes (x y : Nd) (w : World) : (Op.equalIn 10000 43 (.agg #[.int .i64 x.id, .int .i64 x.kind, .int .i64 x.links, .int .i64 x.size, .int .u64 (x.til : Int), .bool x.closed]) (.agg #[.int .i64 y.id, .int .i64 y.kind, .int .i64 y.links, .int .i64 y.size, .int .u64 (y.til : Int), .bool y.closed])).run Try.prog w = .ok (x.same y) w := by
  obtain ⟨i0, i1, i2, i3, i4, i5⟩ := x
  obtain ⟨j0, j1, j2, j3, j4, j5⟩ := y
  simp only [Nd.same]
  rw [show (10000 : Nat) = 9999 + 1 from rfl, run_equalIn_struct w 9999 43 _ _ (by kernel_rfl) (by kernel_rfl)]
  have e : ((i4 : Int) == (j4 : Int)) = (i4 == j4) := by rw [Bool.eq_iff_iff]; simp; omega
  rw [← e]
  simp [go_sem, Try.underlying43, Try.underlying3, Try.underlying22, Try.underlying4]
  clear e
  (repeat' split) <;> simp_all
theorem run_eq_nodes' (x y : Nd) (w : World) : (binOp .eql 43 (.agg x.cells) (.agg y.cells)).run Try.prog w = .ok (.bool (x.same y)) w := by
  rw [run_eql_struct]
  have := run_eq_nodes x y w
  unfold Nd.cells
  rw [this]
  rfl
theorem run_ne_nodes' (x y : Nd) (w : World) : (binOp .neq 43 (.agg x.cells) (.agg y.cells)).run Try.prog w = .ok (.bool (!x.same y)) w := by
  rw [run_neq_struct]
  have := run_eq_nodes x y w
  unfold Nd.cells
  rw [this]
  rfl
theorem eqg_nodes (op : BinOp) (s x : Operand) (m n : Nd) (w : World) : (eqGuard op 43 s x (.agg m.cells) (.agg n.cells)).run Try.prog w = .ok () w := run_eqGuard_agg w op 43 s x _ _ (by kernel_rfl)
/-- nodes held against one another, in one way -/
theorem wpList_neq_nodes {w : World} {ops : Array Oper} {rest : List Oper} {o : Oper} {a : Act} {Q : Exit → Act → World → Prop} (s x : Operand)
    (ho : o.op = .binOp .neq 43 s x 43) (hgd : Region.wanted o (yielded ops a.tmps) = true) (m n : Nd) (hs : a.eval s = .agg m.cells) (hx : a.eval x = .agg n.cells)
    (h : wpList Try.prog ops Q rest (a.put o.dst (.bool (!m.same n))) w) : wpList Try.prog ops Q (o :: rest) a w :=
  BigFrame.wpList_want hgd fun _ hK => by
    unfold Oper.wp execOp
    simp only [ho, Sem.run_bind, Sem.run_pure, Result.andThen_ok, hs, hx, eqg_nodes, run_ne_nodes']
    exact hK _ _ h
theorem wpList_eql_nodes {w : World} {ops : Array Oper} {rest : List Oper} {o : Oper} {a : Act} {Q : Exit → Act → World → Prop} (s x : Operand)
    (ho : o.op = .binOp .eql 43 s x 43) (hgd : Region.wanted o (yielded ops a.tmps) = true) (m n : Nd) (hs : a.eval s = .agg m.cells) (hx : a.eval x = .agg n.cells)
    (h : wpList Try.prog ops Q rest (a.put o.dst (.bool (m.same n))) w) : wpList Try.prog ops Q (o :: rest) a w :=
  BigFrame.wpList_want hgd fun _ hK => by
    unfold Oper.wp execOp
    simp only [ho, Sem.run_bind, Sem.run_pure, Result.andThen_ok, hs, hx, eqg_nodes, run_eq_nodes']
    exact hK _ _ h
/-- a row of our own, made behind the writer's world -/
theorem wbytes_own {w W W' : World} {p q : Nat} {L : List UInt8} {v : Value} {ys : List UInt8} (h : WI w p q W L) (hb : Below W.heap.size W W') (hy : Own W' W.heap.size v ys) (hl : L.length + 65545 ≤ big) :
    Calls Try.prog 44 #[.pointer (some ⟨q, 0, none⟩), v] W' fun e w' => e = .returned (.tuple #[]) ∧ WI w p q w' (L ++ lenBytes ys) := by
  obtain ⟨hE, g, hg⟩ := h
  rcases hy.parts with ⟨rfl, rfl⟩ | ⟨g2, cap, rfl, hB, hr⟩
  · exact (wbytes_any p q g L _ 0 0 [] W' (hg.below hb) (Bs.nil _) (by intro h0; omega) hl).mono fun e w' ⟨h1, h2⟩ => ⟨h1, WI.post (hE.step hb) (hg.below hb) h2⟩
  · refine (wbytes_any p q g L _ _ cap ys W' (hg.below hb) hr.bs ?_ hl).mono fun e w' ⟨h1, h2⟩ => ⟨h1, WI.post (hE.step hb) (hg.below hb) h2⟩
    intro _ ad had hk
    cases had
    rcases hk with hk | hk
    · have h1 := hg.lt; have h2 : g2 = q := hk; omega
    · subst hk
      have := hg.row_lt.1
      have h3 : g2 < W.heap.size := this
      omega
theorem namesBytes_take (ls : List (List UInt8)) (k : Nat) (h : k < ls.length) : namesBytes (ls.take (k + 1)) = namesBytes (ls.take k) ++ lenBytes ls[k] := by
  unfold namesBytes
  rw [List.take_succ_eq_append_getElem h, List.map_append, List.flatten_append]
  simp
theorem namesBytes_len (ls : List (List UInt8)) (h : ∀ s ∈ ls, s.length ≤ 16) : (namesBytes ls).length ≤ 18 * ls.length := by
  induction ls with
  | nil => simp [namesBytes]
  | cons x l ih =>
    have e : namesBytes (x :: l) = lenBytes x ++ namesBytes l := rfl
    have h1 := ih fun s hs => h s (List.mem_cons_of_mem _ hs)
    have h2 := h x (by simp)
    rw [e, List.length_append, List.length_cons]
    have : (lenBytes x).length ≤ 18 := by simp [lenBytes, be_length]; omega
    omega
theorem lenBytes_le (ds : List UInt8) : (lenBytes ds).length ≤ 65537 := by simp [lenBytes, be_length]; omega

/-- what stands ahead of the names -/
def Rp.head (r : Rp) : List UInt8 := be r.err.toNat 1 ++ (be r.n.toNat 2 ++ (lenBytes r.dat ++ be r.names.length 1))
theorem Rp.bytes_eq (r : Rp) : r.bytes = (r.head ++ namesBytes r.names) ++ r.tail := by simp [Rp.bytes, Rp.head]

set_option maxHeartbeats 4000000 in
set_option maxRecDepth 100000 in
theorem oprenc_no (e n : Int) (da : Option Addr) (dl dc : Nat) (ds : List UInt8) (na : Option Addr) (nl nc : Nat) (ls : List (List UInt8)) (nd : Nd) (w : World) (hdl : ds.length = dl) (h : Ss w na nl nc ls) (hF : ¬ Rp.Fine ⟨e, n, ds, ls, nd⟩) :
    Calls Try.prog 25 #[.agg (rpCells e n da dl dc na nl nc nd)] w fun e' w' => e' = .returned (.tuple #[.slice none 0 0, .int .i64 12]) ∧ Below w.heap.size w w' := by
  have HI := Lib.hid (fun w h => fine_any e n da dc ds na nl nc ls nd dl hdl w h)
  rw [decide_eq_false hF] at HI
  obtain ⟨H, hH⟩ : ∃ H, H = w.heap.size := ⟨_, rfl⟩
  have HH := Lib.hid hH
  have h0 := h.alloc (.cells (rpCells e n da dl dc na nl nc nd) 45)
  have hc := heap_alloc_new w (.cells (rpCells e n da dl dc na nl nc nd) 45)
  have hE0 := (Ext.refl w).alloc (.cells (rpCells e n da dl dc na nl nc nd) 45)
  rw [← hH] at hc hE0 ⊢
  unfold rpCells at *
  go_enter Try.func25, Try.ntmps25
  go_upto_region 1 with fail
  rw [← hH]
  clear hH
  generalize w.alloc _ = w0 at *
  have C := cells_at hc
  have c0 := C 0; have c1 := C 1; have c2 := C 2; have c3 := C 3; have c4 := C 4; have c5 := C 5; have c6 := C 6; have c7 := C 7; have c8 := C 8; have c9 := C 9
  simp only [List.getElem?_toArray, List.getElem?_cons_zero, List.getElem?_cons_succ] at c0 c1 c2 c3 c4 c5 c6 c7 c8 c9
  clear C hc hF h
  go_wp2_with fail
  refine (HI.out _ h0).mono ?_
  rintro e' w1 ⟨rfl, hb1⟩
  go_wp2_with fail
  go_ret2
  exact ⟨rfl, (hE0.step hb1).1⟩

set_option maxHeartbeats 8000000 in
set_option maxRecDepth 100000 in
theorem oprenc_ok (e n : Int) (da : Option Addr) (dl dc : Nat) (ds : List UInt8) (na : Option Addr) (nl nc : Nat) (ls : List (List UInt8)) (nd : Nd) (w : World) (hB : Bs w da dl dc ds) (h : Ss w na nl nc ls) (hF : Rp.Fine ⟨e, n, ds, ls, nd⟩) :
    Calls Try.prog 25 #[.agg (rpCells e n da dl dc na nl nc nd)] w fun e' w' => ∃ v, e' = .returned (.tuple #[v, .int .i64 0]) ∧ Own w' w.heap.size v (Rp.bytes ⟨e, n, ds, ls, nd⟩) ∧ Below w.heap.size w w' := by
  have hdl := hB.1
  have hnl := h.1
  have HI := Lib.hid (fun w h => fine_any e n da dc ds na nl nc ls nd dl hdl w h)
  rw [decide_eq_true hF] at HI
  have HFF := Lib.hid hF
  obtain ⟨⟨f1, f2, f3, f4, f5⟩, f6, f7⟩ := hF
  simp only at f1 f2 f3 f4 f5 f6 f7
  obtain ⟨m, rfl, hm⟩ := shortI_nat f3
  obtain ⟨x, rfl⟩ : ∃ x : Nat, e = (x : Int) := ⟨e.toNat, by omega⟩
  have hx : x ≤ 255 := by omega
  have H6 := Lib.hid f6
  have H7 := Lib.hid f7
  clear f1 f2 f3 f6 f7
  rw [hdl] at f4
  rw [hnl] at f5
  have hBZ := Nd.bytes_length nd
  have HEN := Lib.hid (fun (hk : nd.Ok) w => nenc_ok nd w hk)
  have HBY := Lib.hid (Rp.bytes_eq ⟨x, m, ds, ls, nd⟩)
  have HHD : ∃ P, P = Rp.head ⟨x, m, ds, ls, nd⟩ := ⟨_, rfl⟩
  obtain ⟨P, hP⟩ := HHD
  have hPl : P.length ≤ 65600 := by
    rw [hP]
    unfold Rp.head
    have := lenBytes_le ds
    simp only [List.length_append, be_length]
    omega
  have HP := Lib.hid hP
  have hdh : P = be x 1 ++ (be m 2 ++ (lenBytes ds ++ be nl 1)) := by rw [hP]; unfold Rp.head; simp only [hnl]; rfl
  have HPP := Lib.hid hdh
  clear hP hdh
  obtain ⟨H, hH⟩ : ∃ H, H = w.heap.size := ⟨_, rfl⟩
  have HH := Lib.hid hH
  have h0 := h.alloc (.cells (rpCells x m da dl dc na nl nc nd) 45)
  have hB0 := hB.alloc (.cells (rpCells x m da dl dc na nl nc nd) 45)
  have hc := heap_alloc_new w (.cells (rpCells x m da dl dc na nl nc nd) 45)
  have hE0 := (Ext.refl w).alloc (.cells (rpCells x m da dl dc na nl nc nd) 45)
  rw [← hH] at hc hE0 ⊢
  unfold rpCells at *
  go_enter Try.func25, Try.ntmps25
  go_upto_region 1 with fail
  rw [← hH]
  clear hH
  generalize w.alloc _ = w0 at *
  have C := cells_at hc
  have c0 := C 0; have c1 := C 1; have c2 := C 2; have c3 := C 3; have c4 := C 4; have c5 := C 5; have c6 := C 6; have c7 := C 7; have c8 := C 8; have c9 := C 9
  simp only [List.getElem?_toArray, List.getElem?_cons_zero, List.getElem?_cons_succ] at c0 c1 c2 c3 c4 c5 c6 c7 c8 c9
  have HX := Lib.hid hc
  clear C hc h hB
  go_wp2_with fail
  refine (HI.out _ h0).mono ?_
  rintro e' w1 ⟨rfl, hb1⟩
  have hc := (hb1.block H (lt_of_heap HX.out)).trans HX.out
  have hE1 := hE0.step hb1
  have h1 := h0.below hb1
  have hB1 := hB0.below hb1
  have hlt := lt_of_heap hc
  clear c0 c1 c2 c3 c4 c5 c6 c7 c8 c9 HX HI h0 hb1 hB0 hE0
  have C := cells_at hc
  have c0 := C 0; have c1 := C 1; have c2 := C 2; have c3 := C 3; have c4 := C 4; have c5 := C 5; have c6 := C 6; have c7 := C 7; have c8 := C 8; have c9 := C 9
  simp only [List.getElem?_toArray, List.getElem?_cons_zero, List.getElem?_cons_succ] at c0 c1 c2 c3 c4 c5 c6 c7 c8 c9
  clear C hc
  obtain ⟨q, hq⟩ : ∃ q, q = w1.heap.size := ⟨_, rfl⟩
  have HQ := Lib.hid hq
  have HC := Lib.hid (And.intro c0 (And.intro c1 (And.intro c2 (And.intro c3 (And.intro c4 (And.intro c5 (And.intro c6 (And.intro c7 (And.intro c8 c9)))))))))
  clear c0 c1 c2 c3 c4 c5 c6 c7 c8 c9
  go_wp2_with fail
  refine (wnew_any _).mono ?_
  rintro e' w2 ⟨rfl, hW1, hb1⟩
  have hI2 : WI w1 q q w2 [] := ⟨by rw [hq]; exact (Ext.refl w1).step hb1, none, by rw [hq]; exact hW1⟩
  rw [← hq] at hlt ⊢
  clear hW1 hb1 hq
  have d0 := hI2.cell hlt HC.out.1
  go_wp2_with fail
  refine (wbyte_ok x hI2 (by omega) (by unfold big; decide)).mono ?_
  rintro e' w3 ⟨rfl, hI3⟩
  have d1 := hI3.cell hlt HC.out.2.1
  clear d0 hI2
  go_wp2_with fail
  refine (wshort_ok m hI3 (by omega) (by simp [be_length]; unfold big; decide)).mono ?_
  rintro e' w4 ⟨rfl, hI4⟩
  have d2 := hI4.cell hlt HC.out.2.2.1
  clear d1 hI3
  go_wp2_with fail
  refine (wbytes_ok hI4 HQ.out.symm hB1 (by simp [be_length]; unfold big; decide)).mono ?_
  rintro e' w5 ⟨rfl, hI5⟩
  have d3 := hI5.cell hlt HC.out.2.2.2.1
  clear d2 hI4 hB1
  go_wp2_with fail
  refine (wbyte_ok nl hI5 (by omega) (by have := lenBytes_le ds; simp only [List.length_append, be_length, List.length_nil]; unfold big; omega)).mono ?_
  rintro e' w6 ⟨rfl, hI6⟩
  have hI6 : WI w1 q q w6 P := by rw [HPP.out]; simpa using hI6
  have d3 := hI6.cell hlt HC.out.2.2.2.1
  clear hI5
  go_wp2_with fail
  go_loopw [34] (fun i wr => ∃ k : Nat, k ≤ nl ∧ i = .int .i64 k ∧ WI w1 q q wr (P ++ namesBytes (ls.take k))) (fun i _ => nl - (intOf i).toNat)
  case atStart => exact ⟨0, by omega, rfl, by simpa [namesBytes] using hI6⟩
  case round =>
    obtain ⟨k, hk, rfl, hI⟩ := hrel
    clear hI6 d3
    have hnb : (namesBytes (ls.take k)).length ≤ 18 * 255 := by
      have := namesBytes_len (ls.take k) (fun s hs => H6.out s (List.mem_of_mem_take hs))
      rw [List.length_take] at this
      omega
    by_cases hlk : k < nl
    · obtain ⟨b, o1, rfl, hp, hc1⟩ := h1.at (by omega)
      have hkn : k < ls.length := by omega
      have c1 := hI.1.cel (HQ.out ▸ hp) (hc1 k hkn)
      have hk0 : (0 : Int) ≤ (k : Int) := by omega
      have hkl : (k : Int) < (nl : Int) := by omega
      have hnt := namesBytes_take ls k hkn
      have hs16 := H6.out _ (List.getElem_mem hkn)
      generalize ls[k] = s at *
      have kc := run_bytes s
      have HCB := Lib.hid (convW_below wr s)
      have HCS := Lib.hid (convW_bs wr s (by unfold maxLen; omega))
      have HNT := Lib.hid hnt
      clear hc1 hnt
      go_wp2_with fail
      refine (wbytes_new hI HCB.out HCS.out (by rw [List.length_append]; unfold big; omega)).mono ?_
      rintro e' w8 ⟨rfl, hI8⟩
      have hI9 : WI w1 q q w8 (P ++ namesBytes (ls.take (k + 1))) := by rw [HNT.out, ← List.append_assoc]; exact hI8
      clear hI hI8
      go_wp2_with fail
      go_roundw
      case rel => exact ⟨k + 1, by omega, by go_num, hI9⟩
      case measure => simp [intOf]; omega
    · obtain rfl : k = nl := by omega
      have hI9 : WI w1 q q wr (P ++ namesBytes ls) := by rw [← List.take_of_length_le (l := ls) (i := k) (by omega)]; exact hI
      rw [List.take_of_length_le (by omega)] at hnb
      have c4 := hI9.cell hlt HC.out.2.2.2.2.1
      have c5 := hI9.cell hlt HC.out.2.2.2.2.2.1
      have c6 := hI9.cell hlt HC.out.2.2.2.2.2.2.1
      have c7 := hI9.cell hlt HC.out.2.2.2.2.2.2.2.1
      have c8 := hI9.cell hlt HC.out.2.2.2.2.2.2.2.2.1
      have c9 := hI9.cell hlt HC.out.2.2.2.2.2.2.2.2.2
      have HTL : Rp.tail ⟨x, m, ds, ls, nd⟩ = [fb (!decide nd.isZero)] ++ (if nd.isZero then [] else lenBytes nd.bytes) := rfl
      have HT := Lib.hid HTL
      clear HTL hI h1
      go_upto_region 13 with fail
      go_wp2_with (refine wpList_neq_nodes _ _ (by rfl) (by rfl) nd zeroNd (by rfl) (by rfl) ?_)
      rw [Nd.same_zero]
      clear c4 c5 c6 c7 c8 c9 d3 hI6
      by_cases hzz : nd.isZero
      · have HT := Lib.hid (HT.out.trans (by rw [if_pos hzz, decide_eq_true hzz, List.append_nil]))
        rw [decide_eq_true hzz]
        clear hzz
        refine (wflag_ok false hI9 (by rw [List.length_append]; unfold big; omega)).mono ?_
        rintro e' w8 ⟨rfl, hI10⟩
        clear hI9
        go_wp2_with fail
        refine (wdone_ok hI10 (by simp only [List.length_append, List.length_cons, List.length_nil]; unfold big; omega)).mono ?_
        rintro e' w9 ⟨a9, c9, rfl, ho9, _, hI11⟩
        have hE9 := hE1.to (hI11.1.1.mono (Nat.le_of_lt hlt))
        have ho9 := ho9.base (Nat.le_trans hE1.2 (Nat.le_trans (Nat.le_of_eq HQ.out.symm) hI10.1.2))
        generalize (P ++ namesBytes ls ++ [fb false]).length = N at *
        have ho9' : Own w9 H (.slice a9 N c9) (Rp.bytes ⟨x, m, ds, ls, nd⟩) := by
          rw [HBY.out, ← HP.out, HT.out]
          exact ho9
        go_wp2_with fail
        go_ret2
        exact ⟨_, rfl, ho9', hE9.1⟩
      · have hok : nd.Ok := H7.out.resolve_left hzz
        have HT := Lib.hid (HT.out.trans (by rw [if_neg hzz, decide_eq_false hzz]))
        rw [decide_eq_false hzz]
        have HK := Lib.hid hok
        clear hzz hok
        refine (wflag_ok true hI9 (by rw [List.length_append]; unfold big; omega)).mono ?_
        rintro e' w8 ⟨rfl, hI10⟩
        have c4 := hI10.cell hlt HC.out.2.2.2.2.1
        have c5 := hI10.cell hlt HC.out.2.2.2.2.2.1
        have c6 := hI10.cell hlt HC.out.2.2.2.2.2.2.1
        have c7 := hI10.cell hlt HC.out.2.2.2.2.2.2.2.1
        have c8 := hI10.cell hlt HC.out.2.2.2.2.2.2.2.2.1
        have c9 := hI10.cell hlt HC.out.2.2.2.2.2.2.2.2.2
        clear hI9
        go_wp2_with fail
        refine (HEN.out HK.out w8).mono ?_
        rintro e' w9 ⟨v9, rfl, ho9, hb9⟩
        clear c4 c5 c6 c7 c8 c9
        go_wp2_with fail
        refine (wbytes_own hI10 hb9 ho9 (by simp only [List.length_append, List.length_cons, List.length_nil]; unfold big; omega)).mono ?_
        rintro e' w10 ⟨rfl, hI11⟩
        clear hI10 hb9 ho9
        go_wp2_with fail
        have hlb : (lenBytes nd.bytes).length ≤ 18 := by have := lenBytes_le nd.bytes; simp [lenBytes, be_length]; omega
        refine (wdone_ok hI11 (by simp only [List.length_append, List.length_cons, List.length_nil]; unfold big; omega)).mono ?_
        rintro e' w11 ⟨a11, c11, rfl, ho11, _, hI12⟩
        have hE9 := hE1.to (hI12.1.1.mono (Nat.le_of_lt hlt))
        have ho11 := ho11.base (Nat.le_trans hE1.2 (Nat.le_trans (Nat.le_of_eq HQ.out.symm) hI11.1.2))
        generalize (P ++ namesBytes ls ++ [fb true] ++ lenBytes nd.bytes).length = N at *
        have ho9' : Own w11 H (.slice a11 N c11) (Rp.bytes ⟨x, m, ds, ls, nd⟩) := by
          rw [HBY.out, ← HP.out, HT.out]
          have e : P ++ namesBytes ls ++ ([fb (!false)] ++ lenBytes nd.bytes) = P ++ namesBytes ls ++ [fb true] ++ lenBytes nd.bytes := by simp
          rw [e]
          exact ho11
        go_wp2_with fail
        go_ret2
        exact ⟨_, rfl, ho9', hE9.1⟩

/-- what EncodeReply answers: any reply of which the bytes and the names are known -/
theorem oprenc_any (e n : Int) (da : Option Addr) (dl dc : Nat) (ds : List UInt8) (na : Option Addr) (nl nc : Nat) (ls : List (List UInt8)) (nd : Nd) (w : World) (hB : Bs w da dl dc ds) (h : Ss w na nl nc ls) :
    Calls Try.prog 25 #[.agg (rpCells e n da dl dc na nl nc nd)] w fun e' w' => ∃ v, e' = .returned (.tuple #[v, .int .i64 ((rpEnc ⟨e, n, ds, ls, nd⟩).2 : Nat)]) ∧ Own w' w.heap.size v (rpEnc ⟨e, n, ds, ls, nd⟩).1 ∧ Below w.heap.size w w' := by
  unfold rpEnc
  by_cases hF : Rp.Fine ⟨e, n, ds, ls, nd⟩
  · rw [if_pos hF]
    exact oprenc_ok e n da dl dc ds na nl nc ls nd w hB h hF
  · rw [if_neg hF]
    refine (oprenc_no e n da dl dc ds na nl nc ls nd w hB.1 h hF).mono fun e' w' ⟨h1, h2⟩ => ⟨_, h1, Own.nil _ _, h2⟩
end Go.Proofs.Ytphjdlckoddgmaa
