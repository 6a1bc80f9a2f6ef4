/- Contracts of node.Right, node.Encode, node.Decode. -/
import Derived.Test.YtphjdlckoddgmaaCodecUse
namespace Go.Proofs.Ytphjdlckoddgmaa
open Go.RowKit

structure Nd where
  id : Int
  kind : Int
  links : Int
  size : Int
  til : Nat
  closed : Bool
def Nd.cells (n : Nd) : Array Value := #[.int .i64 n.id, .int .i64 n.kind, .int .i64 n.links, .int .i64 n.size, .int .u64 (n.til : Int), .bool n.closed]
def Nd.Ok (n : Nd) : Prop := 0 ≤ n.id ∧ n.id ≤ 65535 ∧ 0 ≤ n.links ∧ n.links ≤ 65535 ∧
  ((n.kind = 1 ∧ 0 ≤ n.size ∧ n.size ≤ 4096 ∧ n.til ≤ 1099511627776) ∨ (n.kind = 2 ∧ n.size = 0 ∧ n.til = 0 ∧ n.closed = true))
instance (n : Nd) : Decidable n.Ok := by unfold Nd.Ok; infer_instance

set_option maxRecDepth 100000 in
theorem nright_any (n : Nd) (w : World) : Calls Try.prog 80 #[.agg n.cells] w fun e w' => e = .returned (.bool (decide n.Ok)) ∧ Below w.heap.size w w' := by
  obtain ⟨id, kind, links, size, til, closed⟩ := n
  generalize hok : decide (Nd.Ok ⟨id, kind, links, size, til, closed⟩) = ok
  have HO := Lib.hid hok
  clear hok
  unfold Nd.cells
  simp only
  go_enter Try.func80, Try.ntmps80
  go_wp2
  all_goals go_ret
  all_goals refine ⟨ret_bool ?_, ((Ext.refl w).alloc _).1⟩
  all_goals rw [← HO.out, Bool.eq_iff_iff]
  all_goals rw [decide_eq_true_iff (p := Nd.Ok _)]
  all_goals simp only [Nd.Ok, decide_eq_true_eq, Bool.false_eq_true, false_iff]
  all_goals (first | omega | (simp_all; done) | (simp_all; omega) | go_goals)

/-- a node as bytes -/
def Nd.bytes (n : Nd) : List UInt8 := be n.id.toNat 2 ++ (be n.kind.toNat 1 ++ (be n.links.toNat 2 ++ (be n.size.toNat 2 ++ (be n.til 8 ++ [fb n.closed]))))
theorem Nd.bytes_length (n : Nd) : n.bytes.length = 16 := by simp [Nd.bytes, be_length]
/-- what a node is, read: the fields, and the refusal -/
def ndRead (xs : List UInt8) : Nd × Nat :=
  (⟨(rdShort (xs, 0)).1, (rdByte (rdShort (xs, 0)).2).1, (rdShort (rdByte (rdShort (xs, 0)).2).2).1, (rdShort (rdShort (rdByte (rdShort (xs, 0)).2).2).2).1,
    (rdLong (rdShort (rdShort (rdByte (rdShort (xs, 0)).2).2).2).2).1, (rdFlag (rdLong (rdShort (rdShort (rdByte (rdShort (xs, 0)).2).2).2).2).2).1⟩,
   rdEnd (rdFlag (rdLong (rdShort (rdShort (rdByte (rdShort (xs, 0)).2).2).2).2).2).2)
def ndDec (xs : List UInt8) : Option Nd := if (ndRead xs).2 = 0 ∧ (ndRead xs).1.Ok then some (ndRead xs).1 else none
def zeroNd : Nd := ⟨0, 0, 0, 0, 0, false⟩

set_option maxRecDepth 100000 in
theorem nenc_no (n : Nd) (w : World) (h : ¬ n.Ok) : Calls Try.prog 61 #[.agg n.cells] w fun e w' => e = .returned (.tuple #[.slice none 0 0, .int .i64 12]) ∧ Below w.heap.size w w' := by
  have HR := Lib.hid (nright_any n (w.alloc (.cells n.cells 43)))
  rw [decide_eq_false h] at HR
  clear h
  obtain ⟨id, kind, links, size, til, closed⟩ := n
  unfold Nd.cells at *
  simp only at *
  go_enter Try.func61, Try.ntmps61
  go_wp2_with fail
  refine HR.out.mono ?_
  rintro e w1 ⟨rfl, hb⟩
  go_wp2_with fail
  go_ret2
  exact ⟨rfl, (((Ext.refl w).alloc _).step hb).1⟩
set_option maxRecDepth 100000 in
theorem nenc_ok (n : Nd) (w : World) (h : n.Ok) : Calls Try.prog 61 #[.agg n.cells] w fun e w' => ∃ v, e = .returned (.tuple #[v, .int .i64 0]) ∧ Own w' w.heap.size v n.bytes ∧ Below w.heap.size w w' := by
  have HR := Lib.hid (nright_any n (w.alloc (.cells n.cells 43)))
  rw [decide_eq_true h] at HR
  obtain ⟨id, kind, links, size, til, closed⟩ := n
  obtain ⟨h1, h2, h3, h4, h5⟩ := h
  simp only at h1 h2 h3 h4 h5
  obtain ⟨i, rfl⟩ : ∃ i : Nat, id = (i : Int) := ⟨id.toNat, by omega⟩
  obtain ⟨k, rfl⟩ : ∃ i : Nat, kind = (i : Int) := ⟨kind.toNat, by omega⟩
  obtain ⟨l, rfl⟩ : ∃ i : Nat, links = (i : Int) := ⟨links.toNat, by omega⟩
  obtain ⟨s, rfl⟩ : ∃ i : Nat, size = (i : Int) := ⟨size.toNat, by omega⟩
  have hk : k ≤ 2 := by omega
  have hs : s ≤ 4096 := by omega
  clear h5
  unfold Nd.cells at *
  simp only at *
  go_enter Try.func61, Try.ntmps61
  go_wp2_with fail
  refine HR.out.mono ?_
  rintro e w1 ⟨rfl, hb⟩
  have hE0 := ((Ext.refl w).alloc _).step hb
  have hlt : w.heap.size < w1.heap.size := Nat.lt_of_lt_of_le (size_alloc _ _) hb.size
  have c0 : w1.cell? ⟨w.heap.size, 0, none⟩ = some (.int .i64 (i : Int)) := cell_new_below hb 0
  have c1 : w1.cell? ⟨w.heap.size, 1, none⟩ = some (.int .i64 (k : Int)) := cell_new_below hb 1
  have c2 : w1.cell? ⟨w.heap.size, 2, none⟩ = some (.int .i64 (l : Int)) := cell_new_below hb 2
  have c3 : w1.cell? ⟨w.heap.size, 3, none⟩ = some (.int .i64 (s : Int)) := cell_new_below hb 3
  have c4 : w1.cell? ⟨w.heap.size, 4, none⟩ = some (.int .u64 (til : Int)) := cell_new_below hb 4
  have c5 : w1.cell? ⟨w.heap.size, 5, none⟩ = some (.bool closed) := cell_new_below hb 5
  clear hb HR
  obtain ⟨H, hH⟩ : ∃ H, H = w.heap.size := ⟨_, rfl⟩
  rw [← hH] at hE0 hlt c0 c1 c2 c3 c4 c5 ⊢
  have HH := Lib.hid hH
  clear hH
  go_wp2_with fail
  refine (wnew_any _).mono ?_
  rintro e w2 ⟨rfl, hW1, hb1⟩
  have hI2 : WI w1 w1.heap.size w1.heap.size w2 [] := ⟨(Ext.refl w1).step hb1, none, hW1⟩
  generalize w1.heap.size = q at *
  clear hW1 hb1
  have d0 := hI2.cell hlt c0
  go_wp2_with fail
  refine (wshort_ok i hI2 (by omega) (by unfold big; decide)).mono ?_
  rintro e w3 ⟨rfl, hI3⟩
  have d1 := hI3.cell hlt c1
  clear d0 hI2
  go_wp2_with fail
  refine (wbyte_ok k hI3 (by omega) (by simp [be_length]; unfold big; decide)).mono ?_
  rintro e w4 ⟨rfl, hI4⟩
  have d2 := hI4.cell hlt c2
  clear d1 hI3
  go_wp2_with fail
  refine (wshort_ok l hI4 (by omega) (by simp [be_length]; unfold big; decide)).mono ?_
  rintro e w5 ⟨rfl, hI5⟩
  have d3 := hI5.cell hlt c3
  clear d2 hI4
  go_wp2_with fail
  refine (wshort_ok s hI5 (by omega) (by simp [be_length]; unfold big; decide)).mono ?_
  rintro e w6 ⟨rfl, hI6⟩
  have d4 := hI6.cell hlt c4
  clear d3 hI5
  go_wp2_with fail
  refine (wlong_ok til hI6 (by simp [be_length]; unfold big; decide)).mono ?_
  rintro e w7 ⟨rfl, hI7⟩
  have d5 := hI7.cell hlt c5
  clear d4 hI6
  go_wp2_with fail
  refine (wflag_ok closed hI7 (by simp [be_length]; unfold big; decide)).mono ?_
  rintro e w8 ⟨rfl, hI8⟩
  clear d5 hI7
  obtain ⟨hE8, g, hW8⟩ := hI8
  go_wp2_with fail
  refine (wdone_any q q g _ _ hW8 (by simp [be_length]; unfold big; decide)).mono ?_
  rintro e w9 ⟨v, rfl, ho, hb9⟩
  go_wp2_with fail
  go_ret2
  have hE9 := (hE0.to (hE8.1.mono (Nat.le_of_lt hlt))).step hb9
  rw [← HH.out]
  exact ⟨v, rfl, (by simpa [Nd.bytes] using ho.base (hE0.to (hE8.1.mono (Nat.le_of_lt hlt))).2), hE9.1⟩
/-- decoding: the node that is told, or none -/
def decV (o : Option Nd) : Value := .tuple #[.agg (o.getD zeroNd).cells, .int .i64 (if o.isSome then 0 else 12)]
set_option maxRecDepth 100000 in
theorem ndec_any (a : Option Addr) (len cap : Nat) (xs : List UInt8) (w : World) (h : Bs w a len cap xs) (hl : len ≤ big) :
    Calls Try.prog 63 #[.slice a len cap] w fun e w' => e = .returned (decV (ndDec xs)) ∧ Below w.heap.size w w' := by
  have hxl := h.1
  obtain ⟨o, ho⟩ : ∃ o, o = ndDec xs := ⟨_, rfl⟩
  have HO := Lib.hid ho
  rw [← ho]
  clear ho
  unfold ndDec ndRead at HO
  go_enter Try.func63, Try.ntmps63
  go_wp2_with fail
  have hE0 := (Ext.refl w).alloc (.cells #[.int .i64 0, .int .i64 0, .int .i64 0, .int .i64 0, .int .u64 0, .bool false] 43)
  have h' := h.alloc (.cells #[.int .i64 0, .int .i64 0, .int .i64 0, .int .i64 0, .int .u64 0, .bool false] 43)
  have hsz := size_alloc w (.cells #[.int .i64 0, .int .i64 0, .int .i64 0, .int .i64 0, .int .u64 0, .bool false] 43)
  have C := cell_new w #[.int .i64 0, .int .i64 0, .int .i64 0, .int .i64 0, .int .u64 0, .bool false] 43
  have F := frozen_new w #[.int .i64 0, .int .i64 0, .int .i64 0, .int .i64 0, .int .u64 0, .bool false] 43
  have C0 := C 0
  have C1 := C 1
  have C2 := C 2
  have C3 := C 3
  have C4 := C 4
  have C5 := C 5
  simp only [List.getElem?_toArray, List.getElem?_cons_zero, List.getElem?_cons_succ] at C0 C1 C2 C3 C4 C5
  have F0 := F 0; have F1 := F 1; have F2 := F 2; have F3 := F 3; have F4 := F 4; have F5 := F 5
  clear C F h
  generalize w.alloc (.cells #[.int .i64 0, .int .i64 0, .int .i64 0, .int .i64 0, .int .u64 0, .bool false] 43) = w0 at *
  obtain ⟨H, hH⟩ : ∃ H, H = w.heap.size := ⟨_, rfl⟩
  rw [← hH] at hE0 hsz C0 C1 C2 C3 C4 C5 F0 F1 F2 F3 F4 F5 ⊢
  have HH := Lib.hid hH
  clear hH
  refine (rnew_any a len cap xs _ h' hl).mono ?_
  rintro e w1 ⟨q, rb, rfl, hR, hb1⟩
  have hE1 := (Ext.refl w0).step hb1
  have HC := Lib.hid (And.intro C0 (And.intro C1 (And.intro C2 (And.intro C3 (And.intro C4 C5)))))
  have HF := Lib.hid (And.intro F0 (And.intro F1 (And.intro F2 (And.intro F3 (And.intro F4 F5)))))
  obtain ⟨p, hp⟩ : ∃ p, p = w0.heap.size := ⟨_, rfl⟩
  rw [← hp] at hR hE1 hsz
  clear h' hb1 C0 C1 C2 C3 C4 C5 F0 F1 F2 F3 F4 F5 hp
  have hb0 : xs.length ≤ big := by omega
  clear hl hxl
  have l1 : (rdShort (xs, 0)).2.1.length ≤ big := Nat.le_trans (rdRaw_left (xs, 0) 2) hb0
  have hv1 := rdShort_lt (xs, 0)
  have hC1 := Lib.hid (rshort_any p q rb (xs, 0) w1 hR hb0)
  generalize (rdShort (xs, 0)).1 = v1 at *
  generalize (rdShort (xs, 0)).2 = s1 at *
  have l2 : (rdByte s1).2.1.length ≤ big := Nat.le_trans (rdRaw_left s1 1) l1
  have hv2 := rdByte_lt s1
  have hC2 := Lib.hid (fun w h => rbyte_any p q rb s1 w h l1)
  generalize (rdByte s1).1 = v2 at *
  generalize (rdByte s1).2 = s2 at *
  have l3 : (rdShort s2).2.1.length ≤ big := Nat.le_trans (rdRaw_left s2 2) l2
  have hv3 := rdShort_lt s2
  have hC3 := Lib.hid (fun w h => rshort_any p q rb s2 w h l2)
  generalize (rdShort s2).1 = v3 at *
  generalize (rdShort s2).2 = s3 at *
  have l4 : (rdShort s3).2.1.length ≤ big := Nat.le_trans (rdRaw_left s3 2) l3
  have hv4 := rdShort_lt s3
  have hC4 := Lib.hid (fun w h => rshort_any p q rb s3 w h l3)
  generalize (rdShort s3).1 = v4 at *
  generalize (rdShort s3).2 = s4 at *
  have l5 : (rdLong s4).2.1.length ≤ big := Nat.le_trans (rdRaw_left s4 8) l4
  have hv5 := rdLong_lt s4
  have hC5 := Lib.hid (fun w h => rlong_any p q rb s4 w h l4)
  generalize (rdLong s4).1 = v5 at *
  generalize (rdLong s4).2 = s5 at *
  have hC6 := Lib.hid (fun w h => rflag_any p q rb s5 w h l5)
  generalize (rdFlag s5).1 = v6 at *
  generalize (rdFlag s5).2 = s6 at *
  clear l1 l2 l3 l4 l5 hb0
  go_wp2_with fail
  refine hC1.out.mono ?_
  rintro e w2 ⟨rfl, hP⟩
  obtain ⟨hE2, hR2⟩ := hE1.next hP
  clear hP hE1 hR
  go_wp2_with fail
  refine (hC2.out _ hR2).mono ?_
  rintro e w3 ⟨rfl, hP⟩
  obtain ⟨hE3, hR3⟩ := hE2.next hP
  clear hP hE2 hR2
  go_wp2_with fail
  refine (hC3.out _ hR3).mono ?_
  rintro e w4 ⟨rfl, hP⟩
  obtain ⟨hE4, hR4⟩ := hE3.next hP
  clear hP hE3 hR3
  go_wp2_with fail
  refine (hC4.out _ hR4).mono ?_
  rintro e w5 ⟨rfl, hP⟩
  obtain ⟨hE5, hR5⟩ := hE4.next hP
  clear hP hE4 hR4
  go_wp2_with fail
  refine (hC5.out _ hR5).mono ?_
  rintro e w6 ⟨rfl, hP⟩
  obtain ⟨hE6, hR6⟩ := hE5.next hP
  clear hP hE5 hR5
  go_wp2_with fail
  refine (hC6.out _ hR6).mono ?_
  rintro e w7 ⟨rfl, hP⟩
  obtain ⟨hE7, hR7⟩ := hE6.next hP
  clear hP hE6 hR6 hC1 hC2 hC3 hC4 hC5 hC6
  obtain ⟨c0, c1, c2, c3, c4, c5⟩ := HC.out
  obtain ⟨f0, f1, f2, f3, f4, f5⟩ := HF.out
  have c0 := hE7.cel hsz c0
  have c1 := hE7.cel hsz c1
  have c2 := hE7.cel hsz c2
  have c3 := hE7.cel hsz c3
  have c4 := hE7.cel hsz c4
  have c5 := hE7.cel hsz c5
  have f0 := hE7.frz hsz f0
  have f1 := hE7.frz hsz f1
  have f2 := hE7.frz hsz f2
  have f3 := hE7.frz hsz f3
  have f4 := hE7.frz hsz f4
  have f5 := hE7.frz hsz f5
  go_wp2_with fail
  have hlt7 : H < w7.heap.size := Nat.lt_of_lt_of_le hsz hE7.2
  have HR := Lib.hid (nright_any ⟨v1, v2, v3, v4, v5, v6⟩ (w7.alloc (.cells #[.int .i64 (v1 : Int), .int .i64 (v2 : Int), .int .i64 (v3 : Int), .int .i64 (v4 : Int), .int .u64 (v5 : Int), .bool v6] 43)))
  unfold Nd.cells at HR
  simp only at HR
  refine (rend_any p q rb s6 _ (hR7.below ((Below.refl _ _).alloc (Nat.le_refl _) _))).mono ?_
  rintro e w8 ⟨rfl, rfl⟩
  generalize rdEnd s6 = en at *
  have hEw := (hE0.to (hE7.1.mono (Nat.le_of_lt hsz))).alloc (.cells #[.int .i64 (v1 : Int), .int .i64 (v2 : Int), .int .i64 (v3 : Int), .int .i64 (v4 : Int), .int .u64 (v5 : Int), .bool v6] 43)
  by_cases hen : en = 0
  · subst hen
    go_wp2_with fail
    refine HR.out.mono ?_
    rintro e w8 ⟨rfl, hb⟩
    have hE8 := (hE7.alloc _).step hb
    have d0 := cell_new_below hb 0
    have d1 := cell_new_below hb 1
    have d2 := cell_new_below hb 2
    have d3 := cell_new_below hb 3
    have d4 := cell_new_below hb 4
    have d5 := cell_new_below hb 5
    clear c0 c1 c2 c3 c4 c5 f0 f1 f2 f3 f4 f5
    obtain ⟨c0, c1, c2, c3, c4, c5⟩ := HC.out
    obtain ⟨f0, f1, f2, f3, f4, f5⟩ := HF.out
    have c0 := hE8.cel hsz c0
    have c1 := hE8.cel hsz c1
    have c2 := hE8.cel hsz c2
    have c3 := hE8.cel hsz c3
    have c4 := hE8.cel hsz c4
    have c5 := hE8.cel hsz c5
    have f0 := hE8.frz hsz f0
    have f1 := hE8.frz hsz f1
    have f2 := hE8.frz hsz f2
    have f3 := hE8.frz hsz f3
    have f4 := hE8.frz hsz f4
    have f5 := hE8.frz hsz f5
    generalize w7.heap.size = G at *
    by_cases hok : Nd.Ok ⟨v1, v2, v3, v4, v5, v6⟩
    · have ho : o = some ⟨v1, v2, v3, v4, v5, v6⟩ := by rw [HO.out, if_pos ⟨trivial, hok⟩]
      have hdk := decide_eq_true hok
      subst ho
      rw [hdk]
      clear HO hok hdk
      go_wp2_with fail
      refine bodyPost_ret (v := decV (some ⟨v1, v2, v3, v4, v5, v6⟩)) (by simp [results, Try.results63, go_sem, decV, Nd.cells, c0, c1, c2, c3, c4, c5]) rfl ⟨rfl, ?_⟩
      rw [← HH.out]
      exact ((((((((hEw.step hb).setCell (Nat.le_refl _) _).setCell (Nat.le_refl _) _).setCell (Nat.le_refl _) _).setCell (Nat.le_refl _) _).setCell (Nat.le_refl _) _).setCell (Nat.le_refl _) _)).1
    · have ho : o = none := by rw [HO.out, if_neg (fun h => hok h.2)]
      have hdk := decide_eq_false hok
      subst ho
      rw [hdk]
      clear HO hok hdk
      go_wp2_with fail
      refine bodyPost_ret (v := decV none) (by simp [results, Try.results63, go_sem, decV, Nd.cells, zeroNd, c0, c1, c2, c3, c4, c5]) rfl ⟨rfl, ?_⟩
      rw [← HH.out]
      exact ((((((((hEw.step hb).setCell (Nat.le_refl _) _).setCell (Nat.le_refl _) _).setCell (Nat.le_refl _) _).setCell (Nat.le_refl _) _).setCell (Nat.le_refl _) _).setCell (Nat.le_refl _) _)).1
  · have hen1 : ((en : Int) != 0) = true := by rw [bne_iff_ne]; omega
    have ho : o = none := by rw [HO.out, if_neg (fun h => hen h.1)]
    subst ho
    clear HO hen
    go_wp2_with fail
    refine bodyPost_ret (v := decV none) (by simp [results, Try.results63, go_sem, decV, Nd.cells, zeroNd, c0, c1, c2, c3, c4, c5, hlt7]) rfl ⟨rfl, ?_⟩
    rw [← HH.out]
    have hEv := hE0.to (hE7.1.mono (Nat.le_of_lt hsz))
    exact (((((((hEv.setCell (Nat.le_refl _) _).setCell (Nat.le_refl _) _).setCell (Nat.le_refl _) _).setCell (Nat.le_refl _) _).setCell (Nat.le_refl _) _).setCell (Nat.le_refl _) _).alloc _).1

theorem be_low (a b k : Nat) : be (a * 256 ^ k + b) k = be b k := by
  have : ∀ (a k m : Nat), k ≤ m → be (a * 256 ^ m + b) k = be b k := by
    intro a k
    induction k with
    | zero => intros; rfl
    | succ k ih =>
      intro m hm
      rw [be, be, ih m (by omega)]
      congr 1
      apply UInt8.toNat_inj.1
      rw [UInt8.toNat_ofNat', UInt8.toNat_ofNat']
      obtain ⟨d, rfl⟩ : ∃ d, m = k + 1 + d := ⟨m - (k + 1), by omega⟩
      rw [show a * 256 ^ (k + 1 + d) + b = b + 256 ^ k * (256 * (a * 256 ^ d)) by rw [Nat.pow_add, Nat.pow_succ]; ac_rfl]
      rw [Nat.add_mul_div_left _ _ (Nat.pow_pos (by decide)), show (2 : Nat) ^ 8 = 256 from rfl, Nat.add_mul_mod_self_left]
  exact this a k k (Nat.le_refl _)
theorem be_num (ys : List UInt8) : be (num ys) ys.length = ys := by
  induction ys with
  | nil => rfl
  | cons y ys ih =>
    have hl := num_lt ys
    rw [num_cons, List.length_cons, be, be_low, ih]
    congr 1
    apply UInt8.toNat_inj.1
    rw [UInt8.toNat_ofNat', Nat.mul_comm, Nat.mul_add_div (Nat.pow_pos (by decide)), Nat.div_eq_of_lt hl, Nat.add_zero]
    exact Nat.mod_eq_of_lt y.toNat_lt
/-- a right node is read again -/
theorem ndDec_bytes (n : Nd) (h : n.Ok) (ht : n.til < 18446744073709551616) : ndDec n.bytes = some n := by
  have hr : ndRead n.bytes = (n, 0) := by
    obtain ⟨id, kind, links, size, til, closed⟩ := n
    obtain ⟨h1, h2, h3, h4, h5⟩ := h
    simp only at h1 h2 h3 h4 h5 ht
    have e1 : (be til 8 ++ [fb closed]) = be til 8 ++ ([fb closed] ++ []) := by simp
    unfold ndRead Nd.bytes
    simp only
    rw [rdShort_be, Nat.mod_eq_of_lt (by omega)]
    simp only
    rw [rdByte_be, Nat.mod_eq_of_lt (by omega)]
    simp only
    rw [rdShort_be, Nat.mod_eq_of_lt (by omega)]
    simp only
    rw [rdShort_be, Nat.mod_eq_of_lt (by omega)]
    simp only
    rw [rdLong_be _ _ ht]
    simp only
    rw [rdFlag_ok]
    have a1 : ((id.toNat : Nat) : Int) = id := by omega
    have a2 : ((kind.toNat : Nat) : Int) = kind := by omega
    have a3 : ((links.toNat : Nat) : Int) = links := by omega
    have a4 : ((size.toNat : Nat) : Int) = size := by omega
    rw [a1, a2, a3, a4]
    rfl
  unfold ndDec
  rw [hr, if_pos ⟨rfl, h⟩]
/-- one read of so many bytes that is not refused in the end -/
theorem rdRaw_inv (xs : List UInt8) (n : Nat) (hn : 1 ≤ n) (h : (rdRaw (xs, 0) n).2.2 = 0) : ∃ ys zs, xs = ys ++ zs ∧ ys.length = n ∧ rdRaw (xs, 0) n = (ys, (zs, 0)) := by
  unfold rdRaw at *
  simp only at *
  rw [if_neg (by simp)] at *
  by_cases h1 : (xs.length : Int) < (n : Int)
  · rw [if_pos h1] at h; simp at h
  · rw [if_neg h1, if_neg (by omega)] at *
    exact ⟨xs.take n, xs.drop n, by simp, by simp; omega, by simp⟩
theorem rdRaw_keeps (s : List UInt8 × Nat) (n : Int) (h : s.2 ≠ 0) : (rdRaw s n).2.2 ≠ 0 := by
  unfold rdRaw; rw [if_pos h]; exact h
end Go.Proofs.Ytphjdlckoddgmaa
