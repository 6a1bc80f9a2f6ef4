/- (api.Errno).Error: a number's text, in decimals. -/
import Derived.Test.YtmbkcohkmedpgaaDoorFtFacts
namespace Go.Proofs.YtmbkcohkmedpgaaDoor
open Go.RowKit

theorem strOf_append (xs ys : List UInt8) : strOf xs ++ strOf ys = strOf (xs ++ ys) := by
  apply ByteArray.ext
  simp [strOf]
/-- a number in decimals -/
def dec (n : Nat) : List UInt8 := if n < 10 then [UInt8.ofNat (48 + n)] else dec (n / 10) ++ [UInt8.ofNat (48 + n % 10)]
/-- what a number says of itself -/
def errText (k : Nat) : List UInt8 :=
  if k = 0 then [110, 111, 32, 101, 114, 114, 111, 114]
  else if k = 28 then [107, 101, 112, 116, 32, 117, 110, 116, 105, 108, 32, 105, 116, 115, 32, 116, 105, 109, 101, 32, 104, 97, 115, 32, 99, 111, 109, 101]
  else if k = 27 then [99, 108, 111, 115, 101, 100, 32, 102, 111, 114, 32, 103, 111, 111, 100]
  else [114, 101, 102, 117, 115, 97, 108, 32] ++ dec k
theorem dec_step (m k : Nat) (xs : List UInt8) (h : (xs = [] ∧ m = k) ∨ (xs ≠ [] ∧ (if m = 0 then [] else dec m) ++ xs = dec k)) (hm : 0 < m) :
    (if m / 10 = 0 then [] else dec (m / 10)) ++ (UInt8.ofNat (48 + m % 10) :: xs) = dec k := by
  have key : ∀ ys : List UInt8, (if m / 10 = 0 then [] else dec (m / 10)) ++ (UInt8.ofNat (48 + m % 10) :: ys) = dec m ++ ys := by
    intro ys
    by_cases h1 : m < 10
    · have h2 : m / 10 = 0 := by omega
      have h3 : m % 10 = m := by omega
      rw [if_pos h2, h3]
      conv => rhs; rw [dec, if_pos h1]
      rfl
    · have h2 : m / 10 ≠ 0 := by omega
      rw [if_neg h2]
      conv => rhs; rw [dec, if_neg h1]
      simp
  rw [key]
  rcases h with ⟨rfl, rfl⟩ | ⟨_, h⟩
  · simp
  · rw [if_neg (by omega)] at h; exact h
set_option maxHeartbeats 1000000 in
set_option maxRecDepth 100000 in
theorem errno_any (k : Nat) (hk : k ≤ 1000000) (w : World) : Calls Tryd.prog 27 #[.int .i64 (k : Int)] w fun e w' => e = .returned (.string (strOf (errText k))) ∧ Below w.heap.size w w' := by
  by_cases h0 : k = 0
  · subst h0
    go_enter Tryd.func27, Tryd.ntmps27
    go_wp2
    go_ret
    exact ⟨rfl, Below.refl _ _⟩
  by_cases h28 : k = 28
  · subst h28
    go_enter Tryd.func27, Tryd.ntmps27
    go_wp2
    go_ret
    exact ⟨rfl, Below.refl _ _⟩
  by_cases h27 : k = 27
  · subst h27
    go_enter Tryd.func27, Tryd.ntmps27
    go_wp2
    go_ret
    exact ⟨rfl, Below.refl _ _⟩
  have b0 : ((k : Int) == 0) = false := by simp; omega
  have b28 : ((k : Int) == 28) = false := by simp; omega
  have b27 : ((k : Int) == 27) = false := by simp; omega
  have c0 : ¬ (k : Int) = 0 := by omega
  have c28 : ¬ (k : Int) = 28 := by omega
  have c27 : ¬ (k : Int) = 27 := by omega
  have kn : ¬ (k : Int) < 0 := by omega
  have hE := Ext.refl w
  unfold errText
  rw [if_neg h0, if_neg h28, if_neg h27, ← strOf_append]
  generalize hd : dec k = D
  have HD := Lib.hid hd
  have H0 := Lib.hid (And.intro hk h0)
  clear hd h0 h28 h27 hk
  go_enter Tryd.func27, Tryd.ntmps27
  go_wp2_with fail
  go_loopw [3, 4] (fun i v wx => ∃ (m : Nat) (xs : List UInt8), i = .int .i64 (m : Int) ∧ Own wx w.heap.size v xs ∧ Ext w.heap.size w wx ∧ xs.length + m ≤ 1000000 ∧ ((xs = [] ∧ m = k) ∨ (xs ≠ [] ∧ (if m = 0 then [] else dec m) ++ xs = D))) (fun i _ _ => (intOf i).toNat)
  case atStart => exact ⟨k, [], rfl, Own.nil _ _, hE, by have := H0.out.1; simpa using this, .inl ⟨rfl, rfl⟩⟩
  case round =>
    obtain ⟨m, xs, rfl, ho, hE2, hl, hx⟩ := hrel
    clear hE b0 b28 b27 c0 c28 c27 kn
    by_cases hm : 0 < m
    · have p1 : (0 : Int) < (m : Int) := by omega
      obtain ⟨d, hd⟩ : ∃ d, d = m % 10 := ⟨_, rfl⟩
      obtain ⟨q, hq⟩ : ∃ q, q = m / 10 := ⟨_, rfl⟩
      obtain ⟨C, hC⟩ : ∃ C, C = UInt8.ofNat (48 + d) := ⟨_, rfl⟩
      have hCn : C.toNat = 48 + d := by rw [hC, UInt8.toNat_ofNat']; omega
      have e1 : (m : Int).tmod 10 = (d : Int) := by rw [Int.tmod_eq_emod_of_nonneg (by omega)]; omega
      have e2 : IntKind.i64.wrap (48 + (d : Int)) = (C.toNat : Int) := by rw [IntWalk.i64_in _ (by omega)]; omega
      have e3 : IntKind.u8.wrap (C.toNat : Int) = (C.toNat : Int) := by rw [IntKind.wrap_u8]; omega
      have e4 : (m : Int).tdiv 10 = (q : Int) := by rw [Int.tdiv_eq_ediv_of_nonneg (by omega)]; omega
      have e5 : IntKind.i64.wrap (q : Int) = (q : Int) := IntWalk.i64_in _ (by omega)
      have hst := dec_step m k xs (by rw [HD.out]; exact hx) hm
      rw [← hd, ← hq, ← hC, HD.out] at hst
      have HST := Lib.hid hst
      have HQ := Lib.hid (And.intro hl (And.intro hq hm))
      obtain ⟨a, cap, rfl, hB⟩ := ho.bs
      have hrow := Row.made wr #[.int .u8 (C.toNat : Int)] 1 1 [C] rfl rfl (Nat.le_refl _) (by simp [maxLen]) rfl
      have hO1 := Own.of_row (B := w.heap.size) hrow hE2.2
      have hB1 := hB.alloc (.cells #[.int .u8 (C.toNat : Int)] TB)
      have hE3 := hE2.alloc (.cells #[.int .u8 (C.toNat : Int)] TB)
      have hBw := hE3.2
      clear hx hst hCn hC hd hq ho hB hrow
      go_wp2_with (at_builtin; refine wpList_append_at rfl _ _ rfl w.heap.size _ [C] rfl hO1 a xs.length cap xs rfl hB1 (by simp; omega) hBw ?_)
      intro v' w1 h1 h2 h3
      have hE4 := hE3.grown h2 (fun k hk => by simp [Value.ownBlock] at hk; have := hE2.2; omega)
      go_wp2_with fail
      go_roundw
      case rel => exact ⟨q, C :: xs, rfl, h1, hE4, by have := HQ.out; simp; omega, .inr ⟨by simp, HST.out⟩⟩
      case measure => have := HQ.out; simp [intOf]; omega
    · obtain rfl : m = 0 := by omega
      rcases hx with ⟨rfl, h⟩ | ⟨hne, hx⟩
      · exact absurd h.symm H0.out.2
      · rw [if_pos rfl, List.nil_append] at hx
        subst hx
        rcases ho.parts with ⟨_, h⟩ | ⟨g, cap, rfl, hg, hrow⟩
        · exact absurd h hne
        · have hl1 : ¬ (xs.length : Int) = 0 := by intro h; exact hne (List.length_eq_zero_iff.1 (by omega))
          have hl2 : ((xs.length : Int) == 0) = false := by simp [hne]
          have s1 := run_string hrow.bs
          have hz : ¬ 9223372036854775807 < 8 + (strOf xs).size := by show ¬ _ < 8 + xs.toArray.size; simp; omega
          go_wp2_with fail
          go_ret
          exact ⟨rfl, hE2.1⟩
end Go.Proofs.YtmbkcohkmedpgaaDoor
