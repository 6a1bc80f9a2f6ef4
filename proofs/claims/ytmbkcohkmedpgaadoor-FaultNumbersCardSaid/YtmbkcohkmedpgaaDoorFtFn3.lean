/- fault.Where, Is, Wrap; the law's said. -/
import Derived.Test.YtmbkcohkmedpgaaDoorFtFn2
namespace Go.Proofs.YtmbkcohkmedpgaaDoor
open Go.RowKit

/-- errors.As for a Fault, where none is -/
theorem As27_none (L : Leaf) (v : Value) (t : Nat) (old : Value) (w : World) (hG : Gl w) (hv : Er w L [] v) (ht : w.heap[t]? = some (.cells #[old] 27 (0, 0))) :
    Calls Tryd.prog 9 #[v, .iface 29 (.pointer (some ⟨t, 0, none⟩))] w fun e w' => AsPost 27 t Option.none w e w' := by
  have hu : v = L.val := hv
  subst hu
  cases L with
  | none => exact (As_nil _ _).mono fun e w' h => ⟨h.1, by rw [h.2]; exact Below.refl _ _⟩
  | errno k => exact As27_from 37 _ t Option.none old w hG ht (fun W a hb ha ht2 => (as27_miss37 k t a W).mono fun e w' h => h)
  | other b => exact As27_from 67 _ t Option.none old w hG ht (fun W a hb ha ht2 => (as27_miss67 b t a W).mono fun e w' h => h)
/-- what Where answers -/
def whV (l : List (List UInt8 × List UInt8)) : Value := match l with
  | [] => .tuple #[.string (strOf []), .string (strOf []), .bool false]
  | x :: _ => .tuple #[.string (strOf x.1), .string (strOf x.2), .bool true]
set_option maxHeartbeats 1000000 in
set_option maxRecDepth 100000 in
theorem where_any (L : Leaf) (l : List (List UInt8 × List UInt8)) (v : Value) (w : World) (hG : Gl w) (hv : Er w L l v) :
    Calls Tryd.prog 17 #[v] w fun e w' => e = .returned (whV l) ∧ Below w.heap.size w w' := by
  have hE := (Ext.refl w).alloc (.cells #[.pointer none] 27)
  have hb1 : Below w.heap.size w (w.alloc (.cells #[.pointer none] 27)) := hE.1
  have ht : (w.alloc (.cells #[.pointer none] 27)).heap[w.heap.size]? = some (.cells #[.pointer none] 27 (0, 0)) := heap_alloc_new w _
  have hv1 := hv.below hb1
  have hG1 := hG.below hb1
  have hlt := lt_of_heap ht
  cases l with
  | nil =>
    have HC := Lib.hid (As27_none L v w.heap.size _ _ hG1 hv1 ht)
    have HE := Lib.hid hE
    clear hv hv1 hG hG1 ht hb1 hlt hE
    go_enter Tryd.func17, Tryd.ntmps17
    go_wp2_with fail
    refine HC.out.mono ?_
    rintro e w2 ⟨rfl, hb2⟩
    have hE2 := HE.out.step hb2
    go_wp2
    refine bodyPost_ret (v := .tuple #[.string (strOf []), .string (strOf []), .bool false]) (by simp [results, Tryd.results17, go_sem, strOf]) rfl ⟨rfl, hE2.1⟩
  | cons x l2 =>
    obtain ⟨b, inner, rfl, hb, hi⟩ := hv1
    have HC := Lib.hid (As27_from 27 (.pointer (some ⟨b, 0, none⟩)) w.heap.size (some (.pointer (some ⟨b, 0, none⟩))) (.pointer none) _ hG1 ht (fun W a hb ha ht2 => (as27_hit b w.heap.size a (.pointer none) W ha ht2).mono fun e w' h => h))
    have HI := Lib.hid (And.intro hb (And.intro ht (And.intro hE hlt)))
    clear hv hG hG1 ht hb1 hlt hE hb hi
    go_enter Tryd.func17, Tryd.ntmps17
    go_wp2_with fail
    refine HC.out.mono ?_
    rintro e w2 ⟨rfl, hc2, ht2⟩
    obtain ⟨hb, ht, hE, hlt⟩ := HI.out
    have hBk : AtB w2 b (.cells #[.string (strOf x.1), .string (strOf x.2), inner] 31 (0, 0)) := blk_hit (by decide) ht hc2 hb
    have hTt : AtB w2 w.heap.size (.cells #[.pointer (some ⟨b, 0, none⟩)] 27 (0, 0)) := ht2
    have hE2 := hE.hop (hc2.below hE.2 (fun q hq h => by have h' : q = w.heap.size := h; omega))
    have c0 := cells_at ht2 0
    simp only [List.getElem?_toArray, List.getElem?_cons_zero] at c0
    clear hb ht hE hlt hc2 ht2 HI HC
    go_upto_region 4 with fail
    clear c0
    obtain ⟨wd, hwd⟩ : ∃ wd, wd = w2.drew := ⟨_, rfl⟩
    have hb : Below w2.heap.size w2 wd := by rw [hwd]; exact (Below.refl _ _).drew
    have hBk := hBk.below hb
    have hTt := hTt.below hb
    have hE2 := hE2.step hb
    clear hb
    refine held_start (by kernel_rfl) (fun hHeld => ?_)
    rw [← hwd] at hHeld ⊢
    clear hwd
    refine held_take (i := 0) (v := ?_) 14 rfl (by kernel_rfl) (by kernel_rfl) (by kernel_rfl) (fun _ _ _ h => h) rfl (by assumption) (Or.inl ⟨by rfl, ?_⟩) ?_
    rotate_left
    · intro w hSw; have q0 := cells_at (hTt.below hSw) 0; simp only [List.getElem?_toArray, List.getElem?_cons_zero] at q0; go_simp; (try with_reducible rfl)
    simp only [List.set_cons_zero, List.set_cons_succ]
    refine held_take (i := 1) (v := ?_) 15 rfl (by kernel_rfl) (by kernel_rfl) (by kernel_rfl) (fun _ _ _ h => h) rfl (by assumption) (Or.inl ⟨by rfl, ?_⟩) ?_
    rotate_left
    · intro w hSw; go_simp; (try with_reducible rfl)
    simp only [List.set_cons_zero, List.set_cons_succ]
    refine held_take (i := 2) (v := ?_) 16 rfl (by kernel_rfl) (by kernel_rfl) (by kernel_rfl) (fun _ _ _ h => h) rfl (by assumption) (Or.inl ⟨by rfl, ?_⟩) ?_
    rotate_left
    · intro w hSw; go_simp; (try with_reducible rfl)
    simp only [List.set_cons_zero, List.set_cons_succ]
    refine held_take (i := 3) (v := ?_) 17 rfl (by kernel_rfl) (by kernel_rfl) (by kernel_rfl) (fun _ _ _ h => h) rfl (by assumption) (Or.inl ⟨by rfl, ?_⟩) ?_
    rotate_left
    · intro w hSw; have c0 := cells_at (hBk.below hSw) 0; have c1 := cells_at (hBk.below hSw) 1; have c2 := cells_at (hBk.below hSw) 2; simp only [List.getElem?_toArray, List.getElem?_cons_zero, List.getElem?_cons_succ] at c0 c1 c2; go_simp; (try with_reducible rfl)
    simp only [List.set_cons_zero, List.set_cons_succ]
    refine held_take (i := 4) (v := ?_) 18 rfl (by kernel_rfl) (by kernel_rfl) (by kernel_rfl) (fun _ _ _ h => h) rfl (by assumption) (Or.inl ⟨by rfl, ?_⟩) ?_
    rotate_left
    · intro w hSw; have q0 := cells_at (hTt.below hSw) 0; simp only [List.getElem?_toArray, List.getElem?_cons_zero] at q0; go_simp; (try with_reducible rfl)
    simp only [List.set_cons_zero, List.set_cons_succ]
    refine held_take (i := 5) (v := ?_) 19 rfl (by kernel_rfl) (by kernel_rfl) (by kernel_rfl) (fun _ _ _ h => h) rfl (by assumption) (Or.inl ⟨by rfl, ?_⟩) ?_
    rotate_left
    · intro w hSw; go_simp; (try with_reducible rfl)
    simp only [List.set_cons_zero, List.set_cons_succ]
    refine held_take (i := 6) (v := ?_) 20 rfl (by kernel_rfl) (by kernel_rfl) (by kernel_rfl) (fun _ _ _ h => h) rfl (by assumption) (Or.inl ⟨by rfl, ?_⟩) ?_
    rotate_left
    · intro w hSw; go_simp; (try with_reducible rfl)
    simp only [List.set_cons_zero, List.set_cons_succ]
    refine held_take (i := 7) (v := ?_) 21 rfl (by kernel_rfl) (by kernel_rfl) (by kernel_rfl) (fun _ _ _ h => h) rfl (by assumption) (Or.inl ⟨by rfl, ?_⟩) ?_
    rotate_left
    · intro w hSw; have c0 := cells_at (hBk.below hSw) 0; have c1 := cells_at (hBk.below hSw) 1; have c2 := cells_at (hBk.below hSw) 2; simp only [List.getElem?_toArray, List.getElem?_cons_zero, List.getElem?_cons_succ] at c0 c1 c2; go_simp; (try with_reducible rfl)
    simp only [List.set_cons_zero, List.set_cons_succ]
    refine held_take (i := 8) (v := ?_) 2 rfl (by kernel_rfl) (by kernel_rfl) (by kernel_rfl) (fun _ _ _ h => h) rfl (by assumption) (Or.inl ⟨by rfl, ?_⟩) ?_
    rotate_left
    · intro w hSw; go_simp; (try with_reducible rfl)
    simp only [List.set_cons_zero, List.set_cons_succ]
    refine held_take (i := 9) (v := ?_) 3 rfl (by kernel_rfl) (by kernel_rfl) (by kernel_rfl) (fun _ _ _ h => h) rfl (by assumption) (Or.inl ⟨by rfl, ?_⟩) ?_
    rotate_left
    · intro w hSw; go_simp; (try with_reducible rfl)
    simp only [List.set_cons_zero, List.set_cons_succ]
    refine held_take (i := 10) (v := ?_) 4 rfl (by kernel_rfl) (by kernel_rfl) (by kernel_rfl) (fun _ _ _ h => h) rfl (by assumption) (Or.inl ⟨by rfl, ?_⟩) ?_
    rotate_left
    · intro w hSw; go_simp; (try with_reducible rfl)
    simp only [List.set_cons_zero, List.set_cons_succ]
    refine wpAnyH_done (by kernel_rfl) ?_ _
    clear hHeld
    go_wp2
    refine bodyPost_ret (v := .tuple #[.string (strOf x.1), .string (strOf x.2), .bool true]) (by simp [results, Tryd.results17, go_sem]) rfl ⟨rfl, hE2.1⟩
theorem fis_any (L : Leaf) (l : List (List UInt8 × List UInt8)) (v : Value) (c : Int) (w : World) (hv : Er w L l v) :
    Calls Tryd.prog 18 #[v, .int .i64 c] w fun ev w' => ev = .returned (.bool (L.isNo c)) ∧ w' = w := by
  have HC := Lib.hid (Is37_any L l v c w hv)
  clear hv
  generalize L.isNo c = r at *
  go_enter Tryd.func18, Tryd.ntmps18
  go_wp2_with fail
  refine HC.out.mono ?_
  rintro e w2 ⟨rfl, rfl⟩
  go_wp2
  go_ret
  exact ⟨rfl, rfl⟩
/-- what is said of an error -/
def saidTxt (L : Leaf) (l : List (List UInt8 × List UInt8)) : List UInt8 := match l with
  | [] => (match L with | .errno k => errText k.toNat | _ => [])
  | x :: l2 => erTxt L (x :: l2)
set_option maxHeartbeats 1000000 in
set_option maxRecDepth 100000 in
theorem said_any (L : Leaf) (l : List (List UInt8 × List UInt8)) (v : Value) (w : World) (hG : Gl w) (hv : Er w L l v) (hk : L.ok) (hL : l = [] → ∃ k, L = .errno k) (hlen : (erTxt L l).length ≤ 1000000000) :
    Calls Tryd.prog 15 #[v] w fun e w' => e = .returned (.string (strOf (saidTxt L l))) ∧ Below w.heap.size w w' := by
  have hE := (Ext.refl w).alloc (.cells #[.pointer none] 27)
  have hb1 : Below w.heap.size w (w.alloc (.cells #[.pointer none] 27)) := hE.1
  have ht : (w.alloc (.cells #[.pointer none] 27)).heap[w.heap.size]? = some (.cells #[.pointer none] 27 (0, 0)) := heap_alloc_new w _
  have hv1 := hv.below hb1
  have hG1 := hG.below hb1
  have hlt := lt_of_heap ht
  cases l with
  | nil =>
    have HC := Lib.hid (As27_none L v w.heap.size _ _ hG1 hv1 ht)
    have HI := Lib.hid (And.intro hE (And.intro hG1 (And.intro hk hv)))
    have hu : v = L.val := hv
    clear hv1 hG hG1 ht hb1 hlt hE hlen hk
    cases L with
    | none => obtain ⟨k, h⟩ := hL rfl; cases h
    | other b => obtain ⟨k, h⟩ := hL rfl; cases h
    | errno k =>
      replace hu : v = .iface 37 (.int .i64 k) := hu
      subst hu
      clear hv
      go_enter Tryd.func15, Tryd.ntmps15
      go_wp2_with fail
      refine HC.out.mono ?_
      rintro e w2 ⟨rfl, hb2⟩
      obtain ⟨hE, hG1, hk, hv⟩ := HI.out
      have hE2 := hE.step hb2
      have hG2 := hG1.below hb2
      have hE3 := hE2.alloc (.cells #[.int .i64 0] 37)
      have hb3 := (Below.refl w2.heap.size w2).alloc (Nat.le_refl _) (.cells #[.int .i64 0] 37)
      have ht3 : (w2.alloc (.cells #[.int .i64 0] 37)).heap[w2.heap.size]? = some (.cells #[.int .i64 0] 37 (0, 0)) := heap_alloc_new w2 _
      have HC2 := Lib.hid (As37_from 37 (.int .i64 k) w2.heap.size (some (.int .i64 k)) (.int .i64 0) _ (hG2.below hb3) ht3 (fun W a hb ha ht2 => as37_any (.errno k) [] (.iface 37 (.int .i64 k)) w2.heap.size a (.int .i64 0) W rfl (by simp) ha ht2))
      have HE3 := Lib.hid (And.intro hE3 hE2.2)
      clear hE hG1 hb2 hE2 hG2 hE3 hb3 ht3 HI HC hv
      have HK := Lib.hid hk
      clear hk
      go_wp2_with fail
      refine HC2.out.mono ?_
      rintro e w3 ⟨rfl, hc3, ht3⟩
      obtain ⟨hE3, hle⟩ := HE3.out
      have hE4 := hE3.hop (hc3.below hE3.2 (fun q hq h => by have h' : q = w2.heap.size := h; omega))
      have c0 := cells_at ht3 0
      simp only [List.getElem?_toArray, List.getElem?_cons_zero] at c0
      obtain ⟨n, rfl⟩ : ∃ n : Nat, k = (n : Int) := ⟨k.toNat, by have := HK.out.1; omega⟩
      have hn : n ≤ 1000000 := by have h : (n : Int) ≤ 1000000 := HK.out.2; omega
      clear hE3 hle hc3 ht3 HC2 HE3
      go_wp2_with fail
      refine (errno_any n hn w3).mono ?_
      rintro e w4 ⟨rfl, hb4⟩
      have hE5 := hE4.step hb4
      clear hE4 hb4 c0
      have hs : saidTxt (.errno (n : Int)) [] = errText n := by show errText (n : Int).toNat = _; rw [Int.toNat_natCast]
      have HS := Lib.hid hs
      clear hs
      go_wp2
      go_ret
      rw [HS.out]
      exact ⟨rfl, hE5.1⟩
  | cons x l2 =>
    obtain ⟨b, inner, hve, hb, hi⟩ := hv1
    subst hve
    have HC := Lib.hid (As27_from 27 (.pointer (some ⟨b, 0, none⟩)) w.heap.size (some (.pointer (some ⟨b, 0, none⟩))) (.pointer none) _ hG1 ht (fun W a hb ha ht2 => (as27_hit b w.heap.size a (.pointer none) W ha ht2).mono fun e w' h => h))
    have HI := Lib.hid (And.intro hb (And.intro ht (And.intro hE hlt)))
    have HV := Lib.hid (And.intro hv (And.intro hb1 (And.intro hk hlen)))
    clear hv hG hG1 ht hb1 hlt hE hb hi hk hlen
    go_enter Tryd.func15, Tryd.ntmps15
    go_wp2_with fail
    refine HC.out.mono ?_
    rintro e w2 ⟨rfl, hc2, ht2⟩
    obtain ⟨hb, ht, hE, hlt⟩ := HI.out
    have hE2 := hE.hop (hc2.below hE.2 (fun q hq h => by have h' : q = w.heap.size := h; omega))
    have c0 := cells_at ht2 0
    simp only [List.getElem?_toArray, List.getElem?_cons_zero] at c0
    have hv2 := (HV.out.1.below HV.out.2.1).hit (by decide) ht hc2
    have HF := Lib.hid (ferr_any L x l2 b w2 hv2 HV.out.2.2.1 HV.out.2.2.2)
    clear hb ht hE hlt hc2 ht2 HI HC hv2
    go_wp2_with fail
    refine HF.out.mono ?_
    rintro e w3 ⟨rfl, hb3⟩
    have hE3 := hE2.step hb3
    clear c0 hE2 hb3
    have HE3 := Lib.hid hE3
    clear hE3
    go_wp2
    go_ret
    exact ⟨rfl, HE3.out.1⟩
set_option maxHeartbeats 1000000 in
set_option maxRecDepth 100000 in
theorem wrap_zero (L : Leaf) (l : List (List UInt8 × List UInt8)) (x : List UInt8 × List UInt8) (v : Value) (w : World) (hG : Gl w) (hv : Er w L l v) (h0 : L.code l = 0) :
    Calls Tryd.prog 20 #[.string (strOf x.1), .string (strOf x.2), v] w fun e w' => e = .returned .nilIface ∧ Below w.heap.size w w' := by
  have HC := Lib.hid (code_any L l v w hG hv)
  have hE := Ext.refl w
  rw [h0] at HC
  clear hv hG h0
  go_enter Tryd.func20, Tryd.ntmps20
  go_wp2_with fail
  refine HC.out.mono ?_
  rintro e w2 ⟨rfl, hb2⟩
  have hE2 := hE.step hb2
  clear hb2
  go_wp2
  go_ret
  exact ⟨rfl, hE2.1⟩
set_option maxHeartbeats 1000000 in
set_option maxRecDepth 100000 in
theorem wrap_ok (L : Leaf) (l : List (List UInt8 × List UInt8)) (x : List UInt8 × List UInt8) (v : Value) (w : World) (hG : Gl w) (hv : Er w L l v) (h0 : L.code l ≠ 0) :
    Calls Tryd.prog 20 #[.string (strOf x.1), .string (strOf x.2), v] w fun e w' => (∃ b, e = .returned (.iface 27 (.pointer (some ⟨b, 0, none⟩))) ∧ Er w' L (x :: l) (.iface 27 (.pointer (some ⟨b, 0, none⟩)))) ∧ Below w.heap.size w w' := by
  have hn : v ≠ .nilIface := by
    rintro rfl
    obtain ⟨rfl, rfl⟩ := hv.nil
    exact h0 rfl
  obtain ⟨S, u, rfl⟩ := hv.iface hn
  clear hn
  have HC := Lib.hid (code_any L l _ w hG hv)
  have HV := Lib.hid hv
  have hE := Ext.refl w
  generalize L.code l = cd at *
  clear hv hG
  have h1 : (cd == 0) = false := by simp [h0]
  go_enter Tryd.func20, Tryd.ntmps20
  go_wp2_with fail
  refine HC.out.mono ?_
  rintro e w2 ⟨rfl, hb2⟩
  have hE2 := hE.step hb2
  have HB := Lib.hid hb2
  clear hb2
  go_wp2
  go_ret
  have hv2 := HV.out.below HB.out
  have hE3 := hE2.alloc (.cells #[.string (strOf x.1), .string (strOf x.2), .iface S u] 31)
  exact ⟨⟨_, rfl, _, _, rfl, heap_alloc_new w2 _, hv2.below ((Below.refl _ _).alloc (Nat.le_refl _) _)⟩, hE3.1⟩
end Go.Proofs.YtmbkcohkmedpgaaDoor
