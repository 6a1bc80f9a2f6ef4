/- The law's chain and text; a slice of links that came in. -/
import Derived.Test.YtmbkcohkmedpgaaDoorFtFn3
import Derived.Test.YtmbkcohkmedpgaaDoorArg
namespace Go.Proofs.YtmbkcohkmedpgaaDoor
open Go.RowKit

theorem strOf_extract (xs : List UInt8) (n : Nat) : (strOf xs).extract 0 n = strOf (xs.take n) := by
  apply ByteArray.ext
  simp [strOf, ByteArray.data_extract]
theorem head_any (xs : List UInt8) (n : Nat) (hn : n ≤ 1000000) (w : World) : Calls Tryd.prog 10 #[.string (strOf xs), .int .i64 (n : Int)] w fun e w' => e = .returned (.string (strOf (xs.take n))) ∧ w = w' := by
  by_cases h : n < xs.length
  · have h1 : (n : Int) < ((strOf xs).size : Int) := by show (n : Int) < ((xs.length : Nat) : Int); omega
    go_enter Tryd.func10, Tryd.ntmps10
    go_wp2
    go_ret
    rw [← strOf_extract]
    exact ⟨rfl, rfl⟩
  · have h1 : ((strOf xs).size : Int) ≤ (n : Int) := by show ((xs.length : Nat) : Int) ≤ (n : Int); omega
    rw [List.take_of_length_le (by omega)]
    go_enter Tryd.func10, Tryd.ntmps10
    go_wp2
    go_ret
    exact ⟨rfl, rfl⟩
theorem head_b (xs : List UInt8) (n : Nat) (hn : n ≤ 1000000) (w : World) : Calls Tryd.prog 10 #[.string (strOf xs), .int .i64 (n : Int)] w fun e w' => e = .returned (.string (strOf (xs.take n))) ∧ Below w.heap.size w w' :=
  (head_any xs n hn w).mono fun e w' ⟨h1, h2⟩ => ⟨h1, by rw [← h2]; exact Below.refl _ _⟩
/-- a slice of links that reads as these -/
def Links (w : World) (a : Option Addr) (len cap : Nat) (xs : List (List UInt8 × List UInt8)) : Prop :=
  xs.length = len ∧ len ≤ cap ∧ cap ≤ maxLen ∧ (len = 0 ∨ ∃ b off, a = some ⟨b, off, none⟩ ∧ b < w.heap.size ∧
    ∀ i (h : i < xs.length), w.cell? ⟨b, off + i * 2, none⟩ = some (.string (strOf xs[i].1)) ∧ w.cell? ⟨b, off + i * 2 + 1, none⟩ = some (.string (strOf xs[i].2)))
theorem Links.below {w w' : World} {a : Option Addr} {len cap : Nat} {xs : List (List UInt8 × List UInt8)} (h : Links w a len cap xs) (hb : Below w.heap.size w w') : Links w' a len cap xs := by
  obtain ⟨h1, h2, h3, h4⟩ := h
  refine ⟨h1, h2, h3, ?_⟩
  rcases h4 with h4 | ⟨b, off, h4, h5, h6⟩
  · exact .inl h4
  · exact .inr ⟨b, off, h4, Nat.lt_of_lt_of_le h5 hb.size, fun i hi => ⟨(hb.cell (p := ⟨b, off + i * 2, none⟩) h5).trans (h6 i hi).1, (hb.cell (p := ⟨b, off + i * 2 + 1, none⟩) h5).trans (h6 i hi).2⟩⟩
theorem Links.cells {w : World} {a : Option Addr} {len cap : Nat} {xs : List (List UInt8 × List UInt8)} (h : Links w a len cap xs) (j : Nat) (hj : j < xs.length) (b off : Nat) (ha : a = some ⟨b, off, none⟩) :
    w.cell? ⟨b, off + j * 2, none⟩ = some (.string (strOf xs[j].1)) ∧ w.cell? ⟨b, off + j * 2 + 1, none⟩ = some (.string (strOf xs[j].2)) := by
  obtain ⟨h1, h2, h3, h4⟩ := h
  rcases h4 with h4 | ⟨b', off', h4, h5, h6⟩
  · omega
  · rw [ha] at h4
    injection h4 with h4
    injection h4 with h7 h8 _
    subst h7 h8
    exact h6 j hj
theorem Links.at {w : World} {a : Option Addr} {len cap : Nat} {xs : List (List UInt8 × List UInt8)} (h : Links w a len cap xs) (h0 : 0 < len) : ∃ b off, a = some ⟨b, off, none⟩ := by
  rcases h.2.2.2 with h1 | ⟨b, off, h1, _⟩
  · omega
  · exact ⟨b, off, h1⟩
theorem Links.take {w : World} {a : Option Addr} {len cap : Nat} {xs : List (List UInt8 × List UInt8)} (h : Links w a len cap xs) {k : Nat} (hk : k ≤ len) : Links w a k cap (xs.take k) := by
  obtain ⟨h1, h2, h3, h4⟩ := h
  refine ⟨by simp; omega, by omega, h3, ?_⟩
  rcases h4 with h4 | ⟨b, off, h4, h5, h6⟩
  · exact .inl (by omega)
  · exact .inr ⟨b, off, h4, h5, fun i hi => by simp at hi; simpa using h6 i (by omega)⟩
set_option maxRecDepth 100000 in
theorem Arg.links {w : World} {v : Value} (h : Arg Tryd.prog w 22 v) : ∃ (a : Option Addr) (len cap : Nat) (xs : List (List UInt8 × List UInt8)), v = .slice a len cap ∧ Links w a len cap xs := by
  have hs : Tryd.prog.cellsOf 34 = 2 := by kernel_rfl
  have hs9 : Tryd.prog.cellsOf 9 = 1 := by kernel_rfl
  obtain ⟨a, len, cap, rfl, h2⟩ := h.sliceCan Tryd.underlying22
  obtain ⟨a', len', cap', h3, h5, h6, h4⟩ := h2.elems Tryd.underlying22 (by omega)
  cases h3
  refine ⟨a, len, cap, ?_⟩
  rcases h4 with rfl | ⟨b, off, rfl, hb, hc⟩
  · exact ⟨[], rfl, rfl, h5, h6, .inl rfl⟩
  · have hx : ∀ i, i < len → ∃ x : List UInt8 × List UInt8, w.cell? ⟨b, off + i * 2, none⟩ = some (.string (strOf x.1)) ∧ w.cell? ⟨b, off + i * 2 + 1, none⟩ = some (.string (strOf x.2)) := fun i hi => by
      obtain ⟨cs', hr, hl, hc'⟩ := hc i hi
      rw [hs] at hl hc'
      obtain ⟨hl2, hf⟩ := hr.struct Tryd.underlying34
      have q0 : Can Tryd.prog w 9 ((cs'.drop 0).take (Tryd.prog.cellsOf 9)) := hf 0 _ rfl
      have q1 : Can Tryd.prog w 9 ((cs'.drop 1).take (Tryd.prog.cellsOf 9)) := hf 1 _ rfl
      rw [hs9] at q0 q1
      obtain ⟨s, e0, _⟩ := q0.string Tryd.underlying9
      obtain ⟨t, e1, _⟩ := q1.string Tryd.underlying9
      match cs', hl with
      | [y0, y1], _ =>
        simp at e0 e1
        have g0 := hc' 0 (by simp)
        have g1 := hc' 1 (by simp)
        simp only [List.getElem_cons_zero, List.getElem_cons_succ, Nat.add_zero] at g0 g1
        refine ⟨(s.data.toList, t.data.toList), ?_, ?_⟩
        · rw [g0, e0]; obtain ⟨d⟩ := s; rfl
        · rw [g1, e1]; obtain ⟨d⟩ := t; rfl
    obtain ⟨f, hf⟩ := Deep.choose_lt hx
    exact ⟨(List.range len).map f, rfl, by simp, h5, h6, .inr ⟨b, off, rfl, hb, fun i hi => by simp at hi; simpa using hf i hi⟩⟩
/-- a link as the law writes it -/
def hx (x : List UInt8 × List UInt8) : List UInt8 × List UInt8 := (x.1.take 20, x.2.take 40)
/-- the Faults that a chain makes, the outermost first -/
def chn (xs : List (List UInt8 × List UInt8)) : List (List UInt8 × List UInt8) := (xs.map hx).reverse
theorem chn_snoc (xs : List (List UInt8 × List UInt8)) (j : Nat) (h : j < xs.length) : chn (xs.take (j + 1)) = hx xs[j] :: chn (xs.take j) := by
  unfold chn
  rw [List.take_succ_eq_append_getElem h, List.map_append, List.reverse_append]
  rfl
theorem dec_len (n : Nat) : (dec n).length ≤ n + 1 := by
  induction n using Nat.strongRecOn with
  | _ n ih =>
    rw [dec]
    split
    · simp
    · have := ih (n / 10) (by omega)
      simp only [List.length_append, List.length_cons, List.length_nil]
      omega
theorem errText_len (n : Nat) : (errText n).length ≤ n + 100 := by
  have := dec_len n
  unfold errText
  split
  · simp
  · split
    · simp
    · split
      · simp
      · simp only [List.length_append, List.length_cons, List.length_nil]; omega
theorem erTxt_len' (n : Nat) (l : List (List UInt8 × List UInt8)) (h : ∀ x ∈ l, x.1.length ≤ 20 ∧ x.2.length ≤ 40) : (erTxt (.errno (n : Int)) l).length ≤ 63 * l.length + n + 100 := by
  induction l with
  | nil => show (errText (n : Int).toNat).length ≤ _; rw [Int.toNat_natCast]; have := errText_len n; simp; omega
  | cons y ys ih =>
    have h1 := h y (List.mem_cons_self ..)
    have h2 := ih (fun x hx => h x (List.mem_cons_of_mem _ hx))
    show (lnTxt y ++ erTxt (.errno (n : Int)) ys).length ≤ _
    simp only [List.length_append, lnTxt, List.length_cons, List.length_nil]
    omega
theorem chn_len (xs : List (List UInt8 × List UInt8)) : (chn xs).length = xs.length := by simp [chn]
theorem erTxt_len (n : Nat) (xs : List (List UInt8 × List UInt8)) : (erTxt (.errno (n : Int)) (chn xs)).length ≤ 63 * xs.length + n + 100 := by
  have := erTxt_len' n (chn xs) (fun x h => by
    unfold chn at h
    rw [List.mem_reverse, List.mem_map] at h
    obtain ⟨y, _, rfl⟩ := h
    simp only [hx, List.length_take]
    omega)
  rwa [chn_len] at this
set_option maxHeartbeats 2000000 in
set_option maxRecDepth 100000 in
theorem chain_ok (a : Option Addr) (len cap : Nat) (xs : List (List UInt8 × List UInt8)) (code : Int) (w : World) (hG : Gl w) (hLk : Links w a len cap xs) (h30 : len ≤ 30) (hc : code ≠ 0) :
    Calls Tryd.prog 8 #[.slice a len cap, .int .i64 code] w fun e w' => ∃ v, e = .returned v ∧ Er w' (.errno code) (chn xs) v ∧ Below w.heap.size w w' := by
  have hE := Ext.refl w
  have HLK := Lib.hid hLk
  have HG := Lib.hid hG
  have HC := Lib.hid hc
  clear hLk hG hc
  go_enter Tryd.func8, Tryd.ntmps8
  go_wp2_with fail
  go_loopw [5, 6] (fun v i wx => ∃ j : Nat, j ≤ len ∧ i = .int .i64 (j : Int) ∧ Er wx (.errno code) (chn (xs.take j)) v ∧ Ext w.heap.size w wx) (fun _ i _ => len - (intOf i).toNat)
  case atStart => exact ⟨0, by omega, rfl, rfl, hE⟩
  case round =>
    obtain ⟨j, hj, rfl, hEr, hE2⟩ := hrel
    clear hE
    by_cases hlt : j < len
    · have hj1 : (j : Int) < (len : Int) := by omega
      have hj3 : (j : Int) < 30 := by omega
      have hj0 : (0 : Int) ≤ (j : Int) := by omega
      have hj2 : j < xs.length := by rw [HLK.out.1]; exact hlt
      have hLk := HLK.out.below hE2.1
      obtain ⟨b, off, rfl⟩ := hLk.at (by omega)
      have hG := HG.out.below hE2.1
      have hE := hE2
      obtain ⟨v, hv⟩ : ∃ v, v = u5 := ⟨_, rfl⟩
      subst hv
      have h0 : (Leaf.errno code).code (chn (xs.take j)) ≠ 0 := HC.out
      clear hE2
      go_upto_region 5 with fail
      obtain ⟨wd, hwd⟩ : ∃ wd, wd = wr.drew := ⟨_, rfl⟩
      have hb : Below wr.heap.size wr wd := by rw [hwd]; exact (Below.refl _ _).drew
      have hLk := hLk.below hb
      have hEr := hEr.below hb
      have hG := hG.below hb
      have hE := hE.step hb
      clear hb
      refine held_start (by kernel_rfl) (fun hHeld => ?_)
      rw [← hwd] at hHeld ⊢
      clear hwd
      refine held_take (i := 0) (v := ?_) 19 rfl (by kernel_rfl) (by kernel_rfl) (by kernel_rfl) (fun _ _ _ h => h) rfl (by assumption) (Or.inl ⟨by rfl, ?_⟩) ?_
      rotate_left
      · intro w hSw; go_simp; (try with_reducible rfl)
      simp only [List.set_cons_zero, List.set_cons_succ]
      refine held_take (i := 1) (v := ?_) 20 rfl (by kernel_rfl) (by kernel_rfl) (by kernel_rfl) (fun _ _ _ h => h) rfl (by assumption) (Or.inl ⟨by rfl, ?_⟩) ?_
      rotate_left
      · intro w hSw; go_simp; (try with_reducible rfl)
      simp only [List.set_cons_zero, List.set_cons_succ]
      refine held_take (i := 2) (v := ?_) 21 rfl (by kernel_rfl) (by kernel_rfl) (by kernel_rfl) (fun _ _ _ h => h) rfl (by assumption) (Or.inl ⟨by rfl, ?_⟩) ?_
      rotate_left
      · intro w hSw; go_simp; (try with_reducible rfl)
      simp only [List.set_cons_zero, List.set_cons_succ]
      refine held_take (i := 3) (v := ?_) 22 rfl (by kernel_rfl) (by kernel_rfl) (by kernel_rfl) (fun _ _ _ h => h) rfl (by assumption) (Or.inl ⟨by rfl, ?_⟩) ?_
      rotate_left
      · intro w hSw; go_simp; (try with_reducible rfl)
      simp only [List.set_cons_zero, List.set_cons_succ]
      refine held_take (i := 4) (v := ?_) 23 rfl (by kernel_rfl) (by kernel_rfl) (by kernel_rfl) (fun _ _ _ h => h) rfl (by assumption) (Or.inl ⟨by rfl, ?_⟩) ?_
      rotate_left
      · intro w hSw; have lk := (hLk.below hSw).cells j hj2 b off rfl; obtain ⟨lk0, lk1⟩ := lk; go_simp; (try with_reducible rfl)
      simp only [List.set_cons_zero, List.set_cons_succ]
      refine held_take (i := 6) (v := ?_) 25 rfl (by kernel_rfl) (by kernel_rfl) (by kernel_rfl) (fun _ _ _ h => h) rfl (by assumption) (Or.inl ⟨by rfl, ?_⟩) ?_
      rotate_left
      · intro w hSw; go_simp; (try with_reducible rfl)
      simp only [List.set_cons_zero, List.set_cons_succ]
      refine held_take (i := 7) (v := ?_) 26 rfl (by kernel_rfl) (by kernel_rfl) (by kernel_rfl) (fun _ _ _ h => h) rfl (by assumption) (Or.inl ⟨by rfl, ?_⟩) ?_
      rotate_left
      · intro w hSw; go_simp; (try with_reducible rfl)
      simp only [List.set_cons_zero, List.set_cons_succ]
      refine held_take (i := 8) (v := ?_) 27 rfl (by kernel_rfl) (by kernel_rfl) (by kernel_rfl) (fun _ _ _ h => h) rfl (by assumption) (Or.inl ⟨by rfl, ?_⟩) ?_
      rotate_left
      · intro w hSw; go_simp; (try with_reducible rfl)
      simp only [List.set_cons_zero, List.set_cons_succ]
      refine held_take (i := 9) (v := ?_) 28 rfl (by kernel_rfl) (by kernel_rfl) (by kernel_rfl) (fun _ _ _ h => h) rfl (by assumption) (Or.inl ⟨by rfl, ?_⟩) ?_
      rotate_left
      · intro w hSw; go_simp; (try with_reducible rfl)
      simp only [List.set_cons_zero, List.set_cons_succ]
      refine held_take (i := 10) (v := ?_) 29 rfl (by kernel_rfl) (by kernel_rfl) (by kernel_rfl) (fun _ _ _ h => h) rfl (by assumption) (Or.inl ⟨by rfl, ?_⟩) ?_
      rotate_left
      · intro w hSw; have lk := (hLk.below hSw).cells j hj2 b off rfl; obtain ⟨lk0, lk1⟩ := lk; go_simp; (try with_reducible rfl)
      simp only [List.set_cons_zero, List.set_cons_succ]
      refine held_take (i := 12) (v := ?_) 31 rfl (by kernel_rfl) (by kernel_rfl) (by kernel_rfl) (fun _ _ _ h => h) rfl (by assumption) (Or.inl ⟨by rfl, ?_⟩) ?_
      rotate_left
      · intro w hSw; go_simp; (try with_reducible rfl)
      simp only [List.set_cons_zero, List.set_cons_succ]
      refine wpAnyH_ready (rs := [5]) (by kernel_rfl) (by simp) ?_
      refine (AllReadyH.cons rfl (fun K hK => ?_) AllReadyH.nil)
      go_simp
      refine (head_b _ _ (by decide) _).mono ?_
      rintro e w1x ⟨rfl, hb⟩
      have hbt := HB.trans hHeld hb
      have hLk := hLk.below hbt
      have hEr := hEr.below hbt
      have hG := hG.below hbt
      have hE := hE.step hbt
      go_wp2_with fail
      refine hK.out _ _ hbt (fun _ => held_next hbt (fun hHeld2 => ?_))
      clear hK hHeld hb hbt K
      have hHeld := hHeld2
      clear hHeld2
      refine wpAnyH_ready (rs := [11]) (by kernel_rfl) (by simp) ?_
      refine (AllReadyH.cons rfl (fun K hK => ?_) AllReadyH.nil)
      go_simp
      refine (head_b _ _ (by decide) _).mono ?_
      rintro e w2x ⟨rfl, hb⟩
      have hbt := HB.trans hHeld hb
      have hLk := hLk.below hbt
      have hEr := hEr.below hbt
      have hG := hG.below hbt
      have hE := hE.step hbt
      go_wp2_with fail
      refine hK.out _ _ hbt (fun _ => held_next hbt (fun hHeld2 => ?_))
      clear hK hHeld hb hbt K
      have hHeld := hHeld2
      clear hHeld2
      refine wpAnyH_ready (rs := [13]) (by kernel_rfl) (by simp) ?_
      refine (AllReadyH.cons rfl (fun K hK => ?_) AllReadyH.nil)
      go_simp
      refine (wrap_ok (.errno code) _ (hx xs[j]) v _ (hG.below hHeld) (hEr.below hHeld) h0).mono ?_
      rintro e w3x ⟨⟨b2, rfl, hEr2⟩, hb⟩
      have hbt := HB.trans hHeld hb
      have hLk := hLk.below hbt
      have hEr := hEr.below hbt
      have hG := hG.below hbt
      have hE := hE.step hbt
      go_wp2_with fail
      refine hK.out _ _ hbt (fun _ => held_next hbt (fun hHeld2 => ?_))
      clear hK hHeld hb hbt K
      have hHeld := hHeld2
      clear hHeld2
      refine held_take (i := 14) (v := ?_) 5 rfl (by kernel_rfl) (by kernel_rfl) (by kernel_rfl) (fun _ _ _ h => h) rfl (by assumption) (Or.inl ⟨by rfl, ?_⟩) ?_
      rotate_left
      · intro w hSw; go_simp; (try with_reducible rfl)
      simp only [List.set_cons_zero, List.set_cons_succ]
      refine wpAnyH_done (by kernel_rfl) ?_ _
      clear hHeld hLk hG
      have hEr3 : Er w3x (.errno code) (chn (xs.take (j + 1))) (.iface 27 (.pointer (some ⟨b2, 0, none⟩))) := by rw [chn_snoc xs j hj2]; exact hEr2
      clear hEr2
      have HER := Lib.hid hEr3
      clear hEr3 h0
      have i1 : IntKind.i64.wrap ((j : Int) + 1) = ((j + 1 : Nat) : Int) := by rw [IntWalk.i64_in _ (by omega)]; omega
      go_wp2_with fail
      go_roundw
      case rel => exact ⟨j + 1, by omega, by go_num, HER.out, hE⟩
      case measure => simp [intOf]; omega
    · obtain rfl : j = len := by omega
      rw [List.take_of_length_le (by rw [HLK.out.1]; exact Nat.le_refl _)] at hEr
      go_wp2_with fail
      go_ret
      exact ⟨_, rfl, hEr, hE2.1⟩
set_option maxHeartbeats 2000000 in
set_option maxRecDepth 100000 in
theorem chain_zero (a : Option Addr) (len cap : Nat) (xs : List (List UInt8 × List UInt8)) (w : World) (hG : Gl w) (hLk : Links w a len cap xs) (h30 : len ≤ 30) :
    Calls Tryd.prog 8 #[.slice a len cap, .int .i64 0] w fun e w' => ∃ v L, e = .returned v ∧ Er w' L [] v ∧ L.code [] = 0 ∧ (0 < len → L = .none) ∧ Below w.heap.size w w' := by
  have hE := Ext.refl w
  have HLK := Lib.hid hLk
  have HG := Lib.hid hG
  clear hLk hG
  go_enter Tryd.func8, Tryd.ntmps8
  go_wp2_with fail
  go_loopw [5, 6] (fun v i wx => ∃ (j : Nat) (L : Leaf), j ≤ len ∧ i = .int .i64 (j : Int) ∧ Er wx L [] v ∧ L.code [] = 0 ∧ (0 < j → L = .none) ∧ Ext w.heap.size w wx) (fun _ i _ => len - (intOf i).toNat)
  case atStart => exact ⟨0, .errno 0, by omega, rfl, rfl, rfl, fun h => absurd h (by omega), hE⟩
  case round =>
    obtain ⟨j, L, hj, rfl, hEr, hL0, hLn, hE2⟩ := hrel
    clear hE
    by_cases hlt : j < len
    · have hj1 : (j : Int) < (len : Int) := by omega
      have hj3 : (j : Int) < 30 := by omega
      have hj0 : (0 : Int) ≤ (j : Int) := by omega
      have hj2 : j < xs.length := by rw [HLK.out.1]; exact hlt
      have hLk := HLK.out.below hE2.1
      obtain ⟨b, off, rfl⟩ := hLk.at (by omega)
      have hG := HG.out.below hE2.1
      have hE := hE2
      obtain ⟨v, hv⟩ : ∃ v, v = u5 := ⟨_, rfl⟩
      subst hv
      have HLN := Lib.hid hL0
      clear hE2 hLn
      go_upto_region 5 with fail
      obtain ⟨wd, hwd⟩ : ∃ wd, wd = wr.drew := ⟨_, rfl⟩
      have hb : Below wr.heap.size wr wd := by rw [hwd]; exact (Below.refl _ _).drew
      have hLk := hLk.below hb
      have hEr := hEr.below hb
      have hG := hG.below hb
      have hE := hE.step hb
      clear hb
      refine held_start (by kernel_rfl) (fun hHeld => ?_)
      rw [← hwd] at hHeld ⊢
      clear hwd
      refine held_take (i := 0) (v := ?_) 19 rfl (by kernel_rfl) (by kernel_rfl) (by kernel_rfl) (fun _ _ _ h => h) rfl (by assumption) (Or.inl ⟨by rfl, ?_⟩) ?_
      rotate_left
      · intro w hSw; go_simp; (try with_reducible rfl)
      simp only [List.set_cons_zero, List.set_cons_succ]
      refine held_take (i := 1) (v := ?_) 20 rfl (by kernel_rfl) (by kernel_rfl) (by kernel_rfl) (fun _ _ _ h => h) rfl (by assumption) (Or.inl ⟨by rfl, ?_⟩) ?_
      rotate_left
      · intro w hSw; go_simp; (try with_reducible rfl)
      simp only [List.set_cons_zero, List.set_cons_succ]
      refine held_take (i := 2) (v := ?_) 21 rfl (by kernel_rfl) (by kernel_rfl) (by kernel_rfl) (fun _ _ _ h => h) rfl (by assumption) (Or.inl ⟨by rfl, ?_⟩) ?_
      rotate_left
      · intro w hSw; go_simp; (try with_reducible rfl)
      simp only [List.set_cons_zero, List.set_cons_succ]
      refine held_take (i := 3) (v := ?_) 22 rfl (by kernel_rfl) (by kernel_rfl) (by kernel_rfl) (fun _ _ _ h => h) rfl (by assumption) (Or.inl ⟨by rfl, ?_⟩) ?_
      rotate_left
      · intro w hSw; go_simp; (try with_reducible rfl)
      simp only [List.set_cons_zero, List.set_cons_succ]
      refine held_take (i := 4) (v := ?_) 23 rfl (by kernel_rfl) (by kernel_rfl) (by kernel_rfl) (fun _ _ _ h => h) rfl (by assumption) (Or.inl ⟨by rfl, ?_⟩) ?_
      rotate_left
      · intro w hSw; have lk := (hLk.below hSw).cells j hj2 b off rfl; obtain ⟨lk0, lk1⟩ := lk; go_simp; (try with_reducible rfl)
      simp only [List.set_cons_zero, List.set_cons_succ]
      refine held_take (i := 6) (v := ?_) 25 rfl (by kernel_rfl) (by kernel_rfl) (by kernel_rfl) (fun _ _ _ h => h) rfl (by assumption) (Or.inl ⟨by rfl, ?_⟩) ?_
      rotate_left
      · intro w hSw; go_simp; (try with_reducible rfl)
      simp only [List.set_cons_zero, List.set_cons_succ]
      refine held_take (i := 7) (v := ?_) 26 rfl (by kernel_rfl) (by kernel_rfl) (by kernel_rfl) (fun _ _ _ h => h) rfl (by assumption) (Or.inl ⟨by rfl, ?_⟩) ?_
      rotate_left
      · intro w hSw; go_simp; (try with_reducible rfl)
      simp only [List.set_cons_zero, List.set_cons_succ]
      refine held_take (i := 8) (v := ?_) 27 rfl (by kernel_rfl) (by kernel_rfl) (by kernel_rfl) (fun _ _ _ h => h) rfl (by assumption) (Or.inl ⟨by rfl, ?_⟩) ?_
      rotate_left
      · intro w hSw; go_simp; (try with_reducible rfl)
      simp only [List.set_cons_zero, List.set_cons_succ]
      refine held_take (i := 9) (v := ?_) 28 rfl (by kernel_rfl) (by kernel_rfl) (by kernel_rfl) (fun _ _ _ h => h) rfl (by assumption) (Or.inl ⟨by rfl, ?_⟩) ?_
      rotate_left
      · intro w hSw; go_simp; (try with_reducible rfl)
      simp only [List.set_cons_zero, List.set_cons_succ]
      refine held_take (i := 10) (v := ?_) 29 rfl (by kernel_rfl) (by kernel_rfl) (by kernel_rfl) (fun _ _ _ h => h) rfl (by assumption) (Or.inl ⟨by rfl, ?_⟩) ?_
      rotate_left
      · intro w hSw; have lk := (hLk.below hSw).cells j hj2 b off rfl; obtain ⟨lk0, lk1⟩ := lk; go_simp; (try with_reducible rfl)
      simp only [List.set_cons_zero, List.set_cons_succ]
      refine held_take (i := 12) (v := ?_) 31 rfl (by kernel_rfl) (by kernel_rfl) (by kernel_rfl) (fun _ _ _ h => h) rfl (by assumption) (Or.inl ⟨by rfl, ?_⟩) ?_
      rotate_left
      · intro w hSw; go_simp; (try with_reducible rfl)
      simp only [List.set_cons_zero, List.set_cons_succ]
      refine wpAnyH_ready (rs := [5]) (by kernel_rfl) (by simp) ?_
      refine (AllReadyH.cons rfl (fun K hK => ?_) AllReadyH.nil)
      go_simp
      refine (head_b _ _ (by decide) _).mono ?_
      rintro e w1x ⟨rfl, hb⟩
      have hbt := HB.trans hHeld hb
      have hLk := hLk.below hbt
      have hEr := hEr.below hbt
      have hG := hG.below hbt
      have hE := hE.step hbt
      go_wp2_with fail
      refine hK.out _ _ hbt (fun _ => held_next hbt (fun hHeld2 => ?_))
      clear hK hHeld hb hbt K
      have hHeld := hHeld2
      clear hHeld2
      refine wpAnyH_ready (rs := [11]) (by kernel_rfl) (by simp) ?_
      refine (AllReadyH.cons rfl (fun K hK => ?_) AllReadyH.nil)
      go_simp
      refine (head_b _ _ (by decide) _).mono ?_
      rintro e w2x ⟨rfl, hb⟩
      have hbt := HB.trans hHeld hb
      have hLk := hLk.below hbt
      have hEr := hEr.below hbt
      have hG := hG.below hbt
      have hE := hE.step hbt
      go_wp2_with fail
      refine hK.out _ _ hbt (fun _ => held_next hbt (fun hHeld2 => ?_))
      clear hK hHeld hb hbt K
      have hHeld := hHeld2
      clear hHeld2
      refine wpAnyH_ready (rs := [13]) (by kernel_rfl) (by simp) ?_
      refine (AllReadyH.cons rfl (fun K hK => ?_) AllReadyH.nil)
      go_simp
      refine (wrap_zero L [] (hx xs[j]) v _ (hG.below hHeld) (hEr.below hHeld) hL0).mono ?_
      rintro e w3x ⟨rfl, hb⟩
      have hbt := HB.trans hHeld hb
      have hLk := hLk.below hbt
      have hEr := hEr.below hbt
      have hG := hG.below hbt
      have hE := hE.step hbt
      go_wp2_with fail
      refine hK.out _ _ hbt (fun _ => held_next hbt (fun hHeld2 => ?_))
      clear hK hHeld hb hbt K
      have hHeld := hHeld2
      clear hHeld2
      refine held_take (i := 14) (v := ?_) 5 rfl (by kernel_rfl) (by kernel_rfl) (by kernel_rfl) (fun _ _ _ h => h) rfl (by assumption) (Or.inl ⟨by rfl, ?_⟩) ?_
      rotate_left
      · intro w hSw; go_simp; (try with_reducible rfl)
      simp only [List.set_cons_zero, List.set_cons_succ]
      refine wpAnyH_done (by kernel_rfl) ?_ _
      clear hHeld hLk hG
      clear hL0
      have i1 : IntKind.i64.wrap ((j : Int) + 1) = ((j + 1 : Nat) : Int) := by rw [IntWalk.i64_in _ (by omega)]; omega
      go_wp2_with fail
      go_roundw
      case rel => exact ⟨j + 1, .none, by omega, by go_num, rfl, rfl, fun _ => rfl, hE⟩
      case measure => simp [intOf]; omega
    · obtain rfl : j = len := by omega
      have HX := Lib.hid (And.intro hEr (And.intro hL0 hLn))
      clear hEr hL0 hLn
      go_wp2_with fail
      go_ret
      exact ⟨_, L, rfl, HX.out.1, HX.out.2.1, HX.out.2.2, hE2.1⟩
set_option maxHeartbeats 2000000 in
set_option maxRecDepth 100000 in
theorem text_any (a : Option Addr) (len cap : Nat) (xs : List (List UInt8 × List UInt8)) (n : Nat) (w : World) (hLk : Links w a len cap xs) (h30 : len ≤ 30) (hn : n ≤ 1000000) :
    Calls Tryd.prog 16 #[.slice a len cap, .int .i64 (n : Int)] w fun e w' => e = .returned (.string (strOf (erTxt (.errno (n : Int)) (chn xs)))) ∧ Below w.heap.size w w' := by
  have hE := Ext.refl w
  have HLK := Lib.hid hLk
  have HN := Lib.hid hn
  clear hLk hn
  go_enter Tryd.func16, Tryd.ntmps16
  go_wp2_with fail
  refine (errno_any n HN.out w).mono ?_
  rintro e w1 ⟨rfl, hb1⟩
  have hE1 := hE.step hb1
  have hs0 : errText n = erTxt (.errno (n : Int)) (chn (xs.take 0)) := by show errText n = errText (n : Int).toNat; rw [Int.toNat_natCast]
  rw [hs0]
  clear hs0 hb1 hE
  go_wp2_with fail
  go_loopw [5, 6] (fun v i wx => ∃ j : Nat, j ≤ len ∧ i = .int .i64 (j : Int) ∧ v = .string (strOf (erTxt (.errno (n : Int)) (chn (xs.take j)))) ∧ Ext w.heap.size w wx) (fun _ i _ => len - (intOf i).toNat)
  case atStart => exact ⟨0, by omega, rfl, rfl, hE1⟩
  case round =>
    obtain ⟨j, hj, rfl, rfl, hE2⟩ := hrel
    clear hE1
    by_cases hlt : j < len
    · have hj1 : (j : Int) < (len : Int) := by omega
      have hj3 : (j : Int) < 30 := by omega
      have hj0 : (0 : Int) ≤ (j : Int) := by omega
      have hj2 : j < xs.length := by rw [HLK.out.1]; exact hlt
      have hLk := HLK.out.below hE2.1
      obtain ⟨b, off, rfl⟩ := hLk.at (by omega)
      have hE := hE2
      have hla := erTxt_len n (xs.take j)
      rw [List.length_take] at hla
      have hnn := HN.out
      have HS := Lib.hid (show strOf (erTxt (.errno (n : Int)) (chn (xs.take (j + 1)))) = strOf (lnTxt (hx xs[j]) ++ erTxt (.errno (n : Int)) (chn (xs.take j))) by rw [chn_snoc xs j hj2]; rfl)
      generalize erTxt (.errno (n : Int)) (chn (xs.take j)) = acc at *
      have e1 : strOf (xs[j].1.take 20) ++ (⟨#[32]⟩ : ByteArray) = strOf (xs[j].1.take 20 ++ [32]) := strOf_append _ [32]
      have e2 : strOf (xs[j].1.take 20 ++ [32]) ++ strOf (xs[j].2.take 40) = strOf (xs[j].1.take 20 ++ [32] ++ xs[j].2.take 40) := strOf_append _ _
      have e3 : strOf (xs[j].1.take 20 ++ [32] ++ xs[j].2.take 40) ++ (⟨#[58, 32]⟩ : ByteArray) = strOf (lnTxt (hx xs[j])) := strOf_append _ [58, 32]
      have e4 : strOf (lnTxt (hx xs[j])) ++ strOf acc = strOf (lnTxt (hx xs[j]) ++ acc) := strOf_append _ _
      have z1 : ¬ 9223372036854775807 < (strOf (xs[j].1.take 20)).size + 1 := by rw [strOf_size]; simp; omega
      have z2 : ¬ 9223372036854775807 < (strOf (xs[j].1.take 20 ++ [32])).size + (strOf (xs[j].2.take 40)).size := by rw [strOf_size, strOf_size]; simp; omega
      have z3 : ¬ 9223372036854775807 < (strOf (xs[j].1.take 20 ++ [32] ++ xs[j].2.take 40)).size + 2 := by rw [strOf_size]; simp; omega
      have z4 : ¬ 9223372036854775807 < (strOf (lnTxt (hx xs[j]))).size + (strOf acc).size := by rw [strOf_size, strOf_size]; simp [lnTxt, hx]; omega
      have HH1 := Lib.hid (fun w => head_b xs[j].1 20 (by decide) w)
      have HH2 := Lib.hid (fun w => head_b xs[j].2 40 (by decide) w)
      have hLkj := fun (W : World) (h : Links W (some ⟨b, off, none⟩) len cap xs) => h.cells j hj2 b off rfl
      have HCJ := Lib.hid hLkj
      clear hE2 hla hLkj
      generalize lnTxt (hx xs[j]) ++ acc = acc2 at *
      generalize strOf (lnTxt (hx xs[j])) = s3 at *
      generalize strOf (xs[j].1.take 20 ++ [32] ++ xs[j].2.take 40) = s2 at *
      generalize strOf (xs[j].1.take 20 ++ [32]) = s1 at *
      generalize strOf (xs[j].1.take 20) = sA at *
      generalize strOf (xs[j].2.take 40) = sB at *
      go_upto_region 5 with fail
      obtain ⟨wd, hwd⟩ : ∃ wd, wd = wr.drew := ⟨_, rfl⟩
      have hb : Below wr.heap.size wr wd := by rw [hwd]; exact (Below.refl _ _).drew
      have hLk := hLk.below hb
      have hE := hE.step hb
      clear hb
      refine held_start (by kernel_rfl) (fun hHeld => ?_)
      rw [← hwd] at hHeld ⊢
      clear hwd
      refine held_take (i := 0) (v := ?_) 19 rfl (by kernel_rfl) (by kernel_rfl) (by kernel_rfl) (fun _ _ _ h => h) rfl (by assumption) (Or.inl ⟨by rfl, ?_⟩) ?_
      rotate_left
      · intro w hSw; go_simp; (try with_reducible rfl)
      simp only [List.set_cons_zero, List.set_cons_succ]
      refine held_take (i := 1) (v := ?_) 20 rfl (by kernel_rfl) (by kernel_rfl) (by kernel_rfl) (fun _ _ _ h => h) rfl (by assumption) (Or.inl ⟨by rfl, ?_⟩) ?_
      rotate_left
      · intro w hSw; go_simp; (try with_reducible rfl)
      simp only [List.set_cons_zero, List.set_cons_succ]
      refine held_take (i := 2) (v := ?_) 21 rfl (by kernel_rfl) (by kernel_rfl) (by kernel_rfl) (fun _ _ _ h => h) rfl (by assumption) (Or.inl ⟨by rfl, ?_⟩) ?_
      rotate_left
      · intro w hSw; go_simp; (try with_reducible rfl)
      simp only [List.set_cons_zero, List.set_cons_succ]
      refine held_take (i := 3) (v := ?_) 22 rfl (by kernel_rfl) (by kernel_rfl) (by kernel_rfl) (fun _ _ _ h => h) rfl (by assumption) (Or.inl ⟨by rfl, ?_⟩) ?_
      rotate_left
      · intro w hSw; go_simp; (try with_reducible rfl)
      simp only [List.set_cons_zero, List.set_cons_succ]
      refine held_take (i := 4) (v := ?_) 23 rfl (by kernel_rfl) (by kernel_rfl) (by kernel_rfl) (fun _ _ _ h => h) rfl (by assumption) (Or.inl ⟨by rfl, ?_⟩) ?_
      rotate_left
      · intro w hSw; have lk := (hLk.below hSw).cells j hj2 b off rfl; obtain ⟨lk0, lk1⟩ := lk; go_simp; (try with_reducible rfl)
      simp only [List.set_cons_zero, List.set_cons_succ]
      refine held_take (i := 7) (v := ?_) 26 rfl (by kernel_rfl) (by kernel_rfl) (by kernel_rfl) (fun _ _ _ h => h) rfl (by assumption) (Or.inl ⟨by rfl, ?_⟩) ?_
      rotate_left
      · intro w hSw; go_simp; (try with_reducible rfl)
      simp only [List.set_cons_zero, List.set_cons_succ]
      refine held_take (i := 8) (v := ?_) 27 rfl (by kernel_rfl) (by kernel_rfl) (by kernel_rfl) (fun _ _ _ h => h) rfl (by assumption) (Or.inl ⟨by rfl, ?_⟩) ?_
      rotate_left
      · intro w hSw; go_simp; (try with_reducible rfl)
      simp only [List.set_cons_zero, List.set_cons_succ]
      refine held_take (i := 9) (v := ?_) 28 rfl (by kernel_rfl) (by kernel_rfl) (by kernel_rfl) (fun _ _ _ h => h) rfl (by assumption) (Or.inl ⟨by rfl, ?_⟩) ?_
      rotate_left
      · intro w hSw; go_simp; (try with_reducible rfl)
      simp only [List.set_cons_zero, List.set_cons_succ]
      refine held_take (i := 10) (v := ?_) 29 rfl (by kernel_rfl) (by kernel_rfl) (by kernel_rfl) (fun _ _ _ h => h) rfl (by assumption) (Or.inl ⟨by rfl, ?_⟩) ?_
      rotate_left
      · intro w hSw; go_simp; (try with_reducible rfl)
      simp only [List.set_cons_zero, List.set_cons_succ]
      refine held_take (i := 11) (v := ?_) 30 rfl (by kernel_rfl) (by kernel_rfl) (by kernel_rfl) (fun _ _ _ h => h) rfl (by assumption) (Or.inl ⟨by rfl, ?_⟩) ?_
      rotate_left
      · intro w hSw; have lk := (hLk.below hSw).cells j hj2 b off rfl; obtain ⟨lk0, lk1⟩ := lk; go_simp; (try with_reducible rfl)
      simp only [List.set_cons_zero, List.set_cons_succ]
      refine held_take (i := 15) (v := ?_) 34 rfl (by kernel_rfl) (by kernel_rfl) (by kernel_rfl) (fun _ _ _ h => h) rfl (by assumption) (Or.inl ⟨by rfl, ?_⟩) ?_
      rotate_left
      · intro w hSw; go_simp; (try with_reducible rfl)
      simp only [List.set_cons_zero, List.set_cons_succ]
      refine wpAnyH_ready (rs := [5]) (by kernel_rfl) (by simp) ?_
      refine (AllReadyH.cons rfl (fun K hK => ?_) AllReadyH.nil)
      go_simp
      refine (HH1.out _).mono ?_
      rintro e w1x ⟨rfl, hb⟩
      have hbt := HB.trans hHeld hb
      have hLk := hLk.below hbt
      have hE := hE.step hbt
      go_wp2_with fail
      refine hK.out _ _ hbt (fun _ => held_next hbt (fun hHeld2 => ?_))
      clear hK hHeld hb hbt K
      have hHeld := hHeld2
      clear hHeld2
      refine held_take (i := 6) (v := ?_) 25 rfl (by kernel_rfl) (by kernel_rfl) (by kernel_rfl) (fun _ _ _ h => h) rfl (by assumption) (Or.inl ⟨by rfl, ?_⟩) ?_
      rotate_left
      · intro w hSw; go_simp; (try with_reducible rfl)
      simp only [List.set_cons_zero, List.set_cons_succ]
      refine wpAnyH_ready (rs := [12]) (by kernel_rfl) (by simp) ?_
      refine (AllReadyH.cons rfl (fun K hK => ?_) AllReadyH.nil)
      go_simp
      refine (HH2.out _).mono ?_
      rintro e w2x ⟨rfl, hb⟩
      have hbt := HB.trans hHeld hb
      have hLk := hLk.below hbt
      have hE := hE.step hbt
      go_wp2_with fail
      refine hK.out _ _ hbt (fun _ => held_next hbt (fun hHeld2 => ?_))
      clear hK hHeld hb hbt K
      have hHeld := hHeld2
      clear hHeld2
      refine held_take (i := 13) (v := ?_) 32 rfl (by kernel_rfl) (by kernel_rfl) (by kernel_rfl) (fun _ _ _ h => h) rfl (by assumption) (Or.inl ⟨by rfl, ?_⟩) ?_
      rotate_left
      · intro w hSw; go_simp; (try with_reducible rfl)
      simp only [List.set_cons_zero, List.set_cons_succ]
      refine held_take (i := 14) (v := ?_) 33 rfl (by kernel_rfl) (by kernel_rfl) (by kernel_rfl) (fun _ _ _ h => h) rfl (by assumption) (Or.inl ⟨by rfl, ?_⟩) ?_
      rotate_left
      · intro w hSw; go_simp; (try with_reducible rfl)
      simp only [List.set_cons_zero, List.set_cons_succ]
      refine held_take (i := 16) (v := ?_) 35 rfl (by kernel_rfl) (by kernel_rfl) (by kernel_rfl) (fun _ _ _ h => h) rfl (by assumption) (Or.inl ⟨by rfl, ?_⟩) ?_
      rotate_left
      · intro w hSw; go_simp; (try with_reducible rfl)
      simp only [List.set_cons_zero, List.set_cons_succ]
      refine held_take (i := 17) (v := ?_) 5 rfl (by kernel_rfl) (by kernel_rfl) (by kernel_rfl) (fun _ _ _ h => h) rfl (by assumption) (Or.inl ⟨by rfl, ?_⟩) ?_
      rotate_left
      · intro w hSw; go_simp; (try with_reducible rfl)
      simp only [List.set_cons_zero, List.set_cons_succ]
      refine wpAnyH_done (by kernel_rfl) ?_ _
      clear hHeld hLk e1 e2 e3 e4 z1 z2 z3 z4
      have i1 : IntKind.i64.wrap ((j : Int) + 1) = ((j + 1 : Nat) : Int) := by rw [IntWalk.i64_in _ (by omega)]; omega
      go_wp2_with fail
      go_roundw
      case rel => exact ⟨j + 1, by omega, by go_num, by rw [HS.out], hE⟩
      case measure => simp [intOf]; omega
    · obtain rfl : j = len := by omega
      rw [List.take_of_length_le (by rw [HLK.out.1]; exact Nat.le_refl _)]
      go_wp2_with fail
      go_ret
      exact ⟨rfl, hE2.1⟩
set_option maxHeartbeats 2000000 in
set_option maxRecDepth 100000 in
theorem law1_known (w : World) (hG : Gl w) : Calls Tryd.prog 13 #[] w fun e w' => e = .returned (.bool true) ∧ Below w.heap.size w w' := by
  have hE := Ext.refl w
  have HW := Lib.hid (wrap_ok (.errno 20) [] ([114, 101, 97, 100], [47, 97]) (.iface 37 (.int .i64 20)) w hG rfl (by decide))
  have HG := Lib.hid hG
  clear hG
  go_enter Tryd.func13, Tryd.ntmps13
  go_wp2_with fail
  refine HW.out.mono ?_
  rintro e w1 ⟨⟨b, rfl, hEr⟩, hb1⟩
  have hE1 := hE.step hb1
  have hG1 := HG.out.below hb1
  have hs : saidTxt (.errno 20) [([114, 101, 97, 100], [47, 97])] = [114, 101, 97, 100, 32, 47, 97, 58, 32, 114, 101, 102, 117, 115, 97, 108, 32, 50, 48] := by
    simp [saidTxt, erTxt, lnTxt, leafTxt, errText, dec]
  have hs2 : (erTxt (.errno 20) [([114, 101, 97, 100], [47, 97])]) = [114, 101, 97, 100, 32, 47, 97, 58, 32, 114, 101, 102, 117, 115, 97, 108, 32, 50, 48] := hs
  have HS := Lib.hid (said_any (.errno 20) [([114, 101, 97, 100], [47, 97])] _ w1 hG1 hEr ⟨by decide, by decide⟩ (fun h => by cases h) (by rw [hs2]; decide))
  rw [hs] at HS
  have HX := Lib.hid (And.intro hEr hG1)
  clear hb1 hE hs hs2 hEr hG1 HW
  go_wp2_with fail
  refine HS.out.mono ?_
  rintro e w2 ⟨rfl, hb2⟩
  have hE2 := hE1.step hb2
  have hEr2 := HX.out.1.below hb2
  have hG2 := HX.out.2.below hb2
  have HC := Lib.hid (code_any _ _ _ w2 hG2 hEr2)
  have HX2 := Lib.hid (And.intro hEr2 hG2)
  have hq : strOf [114, 101, 97, 100, 32, 47, 97, 58, 32, 114, 101, 102, 117, 115, 97, 108, 32, 50, 48] = ⟨#[114, 101, 97, 100, 32, 47, 97, 58, 32, 114, 101, 102, 117, 115, 97, 108, 32, 50, 48]⟩ := rfl
  clear hb2 hE1 hEr2 hG2 HX HS
  go_wp2_with fail
  refine HC.out.mono ?_
  rintro e w3 ⟨rfl, hb3⟩
  have hE3 := hE2.step hb3
  have HD := Lib.hid (depth_any _ _ _ w3 (HX2.out.2.below hb3) (HX2.out.1.below hb3) (by decide))
  clear hb3 hE2 HX2 HC
  have hcd : (Leaf.errno 20).code [([114, 101, 97, 100], [47, 97])] = 20 := rfl
  rw [hcd]
  clear hcd
  go_wp2_with fail
  refine HD.out.mono ?_
  rintro e w4 ⟨rfl, hb4⟩
  have hE4 := hE3.step hb4
  clear hb4 hE3 HD
  go_wp2_with fail
  go_ret
  exact ⟨rfl, hE4.1⟩
end Go.Proofs.YtmbkcohkmedpgaaDoor
