/- The contracts of the statements' own few and known, and of permafrostkeep.Lists. -/
import Derived.Test.YtaomkjnkfkahhaaMerkJ
import Derived.Test.YtaomkjnkfkahhaaCut
import Derived.Test.YtaomkjnkfkahhaaWithin
import Derived.Test.YtaomkjnkfkahhaaHeld
namespace Go.Proofs.Ytaomkjnkfkahhaa
open Go.RowKit

/-- a cell that stays -/
def CellIs (w : World) (b o : Nat) (v : Value) : Prop := b < w.heap.size ∧ w.cell? ⟨b, o, none⟩ = some v
theorem CellIs.below {w w' : World} {b o : Nat} {v : Value} (h : CellIs w b o v) (hb : Below w.heap.size w w') : CellIs w' b o v :=
  ⟨Nat.lt_of_lt_of_le h.1 hb.size, (hb.cell (p := ⟨b, o, none⟩) h.1).trans h.2⟩
def fewK (ls : List (List UInt8)) (k : Nat) : List (List UInt8) := (ls.take k).map (·.take 40)
def fewL (ls : List (List UInt8)) : List (List UInt8) := fewK ls 40
theorem fewL_length (ls : List (List UInt8)) : (fewL ls).length = min ls.length 40 := by simp [fewL, fewK, Nat.min_comm]
theorem fewL_short (ls : List (List UInt8)) : ∀ x ∈ fewL ls, x.length ≤ 40 := by
  intro x hx
  unfold fewL fewK at hx
  obtain ⟨y, _, rfl⟩ := List.mem_map.1 hx
  simp; omega

set_option maxHeartbeats 2000000 in
set_option maxRecDepth 100000 in
theorem few_any (a : Option Addr) (len cap : Nat) (ls : List (List UInt8)) (w : World) (hL : LL w a len cap ls) :
    Calls Try.prog 9 #[.slice a len cap] w fun e w' => ∃ v, e = .returned v ∧ OwnL w' w.heap.size v (fewL ls) ∧ Below w.heap.size w w' := by
  have HL := Lib.hid hL
  have hE := Ext.refl w
  obtain ⟨H, hH⟩ : ∃ H, H = w.heap.size := ⟨_, rfl⟩
  rw [← hH] at hE ⊢
  have HH := Lib.hid hH
  clear hH hL
  go_enter Try.func9, Try.ntmps9
  go_wp2_with fail
  go_loopw [3, 4] (fun v i wr => ∃ k : Nat, i = .int .i64 (k : Int) ∧ k ≤ 40 ∧ k ≤ len ∧ OwnL wr H v (fewK ls k) ∧ Ext H w wr) (fun _ i _ => 40 - (intOf i).toNat)
  case atStart => exact ⟨0, rfl, by omega, by omega, OwnL.nil _ _, hE⟩
  case round =>
    obtain ⟨k, rfl, hk1, hk2, hO, hE1⟩ := hrel
    clear hE
    go_upto_region 3 with fail
    go_cut [12] (fun s wx => s = .bool (decide (k < len ∧ k < 40)) ∧ wr = wx)
    case first =>
      by_cases h1 : k < len
      · by_cases h2 : k < 40
        · go_wp2_with fail
          go_meet
          exact ⟨congrArg Value.bool (by rw [decide_eq_decide]; omega), rfl⟩
        · go_wp2_with fail
          go_meet
          exact ⟨congrArg Value.bool (by rw [decide_eq_decide]; omega), rfl⟩
      · go_wp2_with fail
        go_meet
        exact ⟨by rw [decide_eq_false (show ¬ (k < len ∧ k < 40) by omega)], rfl⟩
    case rest =>
      obtain ⟨rfl, rfl⟩ := hcut
      by_cases hlt : k < len ∧ k < 40
      · rw [decide_eq_true hlt]
        obtain ⟨hlt1, hlt2⟩ := hlt
        obtain ⟨b, off, rfl, hbw, hc⟩ := HL.out.at (by omega)
        obtain ⟨a', m, c, hc1, hB⟩ := hc k hlt1
        have hck := (hE1.1.cell (p := ⟨b, off + k, none⟩) (by rw [HH.out]; exact hbw)).trans hc1
        have hls : ls.length = len := HL.out.1
        have hkl : k < ls.length := by rw [hls]; exact hlt1
        have HTK : Hid (fewK ls k ++ [(ls.getD k []).take 40] = fewK ls (k + 1)) := Lib.hid (by
          unfold fewK; rw [List.take_succ_eq_append_getElem hkl, List.map_append, List.getD_eq_getElem?_getD, List.getElem?_eq_getElem hkl]; rfl)
        generalize ls.getD k [] = x at *
        have hlk : (fewK ls k).length + 1 ≤ 1000000 := by simp [fewK]; omega
        have hmc := hB.2.1
        have hB2 := (hB.take (k := min m 40) (Nat.min_le_left _ _))
        have hx40 : x.take (min m 40) = x.take 40 := by rw [← hB.1, Nat.min_comm, ← List.take_take, List.take_length]
        rw [hx40] at hB2
        have hap : 0 < min m 40 → ∀ x, a' = some x → u3.ownBlock ≠ some x.block := fun h0 ad had e => by
          have := hB2.blk' h0 ad had; have := (hO.lt _ e).1; rw [HH.out] at this; omega
        have hB3 := hB2.below (by rw [← HH.out]; exact hE1.1)
        have HCT := Lib.hid (fun W => cut_any 40 a' m c W hmc (by omega))
        generalize min m 40 = m2 at *
        have HO := Lib.hid (And.intro hO (And.intro hB3 (And.intro hap (And.intro hlk hE1))))
        have e1 : (0 : Int) ≤ (k : Int) := by omega
        have e2 : (k : Int) < (len : Int) := by omega
        clear hc hc1 hls hkl hB hB2 hB3 hx40 hmc hlk hap hO hE1
        go_wp2_with fail
        refine (HCT.out _).mono ?_
        rintro e wq ⟨rfl, rfl⟩
        clear HCT hck
        go_wp2_with (at_builtin; refine wpList_append_row rfl (.tmp 15) (.tmp 21) rfl rfl H u3 _ rfl HO.out.1 a' m2 c _ HO.out.2.1 HO.out.2.2.1 HO.out.2.2.2.1 HO.out.2.2.2.2.2 ?_)
        intro v' w2 hO2 hg2
        have hE2 := (HO.out.2.2.2.2.alloc (.cells #[.slice a' m2 c] TBS)).grown hg2 (fun q hq => (HO.out.1.lt q hq).1)
        rw [HTK.out] at hO2
        clear HO HTK hg2
        go_wp2_with fail
        go_roundw
        case rel => exact ⟨k + 1, by go_num, by omega, by omega, hO2, hE2⟩
        case measure => simp [intOf]; omega
      · rw [decide_eq_false hlt]
        have HF : Hid (fewK ls k = fewL ls) := Lib.hid (by
          unfold fewL fewK
          by_cases h40 : k = 40
          · rw [h40]
          · rw [List.take_of_length_le (by rw [HL.out.1]; omega), List.take_of_length_le (by rw [HL.out.1]; omega)])
        go_wp2_with fail
        go_ret
        rw [← HF.out]
        exact ⟨_, rfl, hO, hE1.1⟩

set_option maxHeartbeats 2000000 in
set_option maxRecDepth 100000 in
theorem lists_same (a b : Option Addr) (n c c' : Nat) (ls : List (List UInt8)) (w : World) (hA : LL w a n c ls) (hB : LL w b n c' ls) (hn : n ≤ 1000000) :
    Calls Try.prog 20 #[.slice a n c, .slice b n c'] w fun e w' => e = .returned (.bool true) ∧ Below w.heap.size w w' := by
  have HA := Lib.hid hA
  have HB' := Lib.hid hB
  have hne : ((n : Int) != (n : Int)) = false := by simp
  have z1 : ∀ L : List UInt8, (!(strOf L).toList == (strOf L).toList) = false := fun L => by simp
  have z2 : ∀ L : List UInt8, ((strOf L).toList != (strOf L).toList) = false := fun L => by simp
  clear hA hB
  go_enter Try.func20, Try.ntmps20
  go_wp2_with fail
  go_loopw [5] (fun i wr => ∃ k : Nat, i = .int .i64 (k : Int) ∧ k ≤ n ∧ Ext w.heap.size w wr) (fun i _ => n - (intOf i).toNat)
  case atStart => exact ⟨0, rfl, by omega, Ext.refl w⟩
  case round =>
    obtain ⟨k, rfl, hk, hE⟩ := hrel
    by_cases hlt : k < n
    · obtain ⟨b1, o1, rfl, hb1, hc1⟩ := HA.out.at (by omega)
      obtain ⟨b2, o2, rfl, hb2, hc2⟩ := HB'.out.at (by omega)
      obtain ⟨a1, m1, k1, hd1, hB1⟩ := hc1 k hlt
      obtain ⟨a2, m2, k2, hd2, hB2⟩ := hc2 k hlt
      have hck1 := (hE.1.cell (p := ⟨b1, o1 + k, none⟩) hb1).trans hd1
      have hck2 := (hE.1.cell (p := ⟨b2, o2 + k, none⟩) hb2).trans hd2
      have r1 := fun (W : World) (hb : Below w.heap.size w W) => run_string (hB1.below hb)
      have r2 := fun (W : World) (hb : Below w.heap.size w W) => run_string (hB2.below hb)
      have s1 := r1 _ hE.1.drew
      have s2 := r2 _ hE.1.drew
      have s3 := r1 _ hE.1
      have s4 := r2 _ hE.1
      generalize ls.getD k [] = x at *
      have e1 : (0 : Int) ≤ (k : Int) := by omega
      have e2 : (k : Int) < (n : Int) := by omega
      clear hc1 hc2 hd1 hd2 hB1 hB2 r1 r2
      go_wp2_with fail
      go_region
      go_wp2_with fail
      go_roundw
      case rel => exact ⟨k + 1, by go_num, by omega, hE.drew⟩
      case measure => simp [intOf]; omega
    · obtain rfl : k = n := by omega
      go_wp2_with fail
      go_ret
      exact ⟨rfl, hE.1⟩
end Go.Proofs.Ytaomkjnkfkahhaa
