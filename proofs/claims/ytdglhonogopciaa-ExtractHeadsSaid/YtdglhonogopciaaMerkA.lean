/- The contracts of merkle.part, permafrostref6.part and both Roots. -/
import Derived.Test.YtdglhonogopciaaML
import Derived.Test.YtdglhonogopciaaMerkLaw
import Derived.Test.YtdglhonogopciaaShaOf
import Derived.Test.YtdglhonogopciaaHeld
namespace Go.Proofs.Ytdglhonogopciaa
open Go.RowKit

set_option maxHeartbeats 1000000 in
theorem part_any (n : Nat) (w : World) (hn : n ≤ 1000000) :
    Calls Try.prog 39 #[.int .i64 (n : Int)] w fun e w' => e = .returned (.int .i64 ((mpart n : Nat) : Int)) ∧ w = w' := by
  go_enter Try.func39, Try.ntmps39
  go_wp2_with fail
  go_loopw [3] (fun i wr => ∃ k : Nat, i = .int .i64 (k : Int) ∧ 0 < k ∧ k ≤ 1000000 ∧ partF n k = mpart n ∧ w = wr) (fun i _ => n - (intOf i).toNat)
  case atStart => exact ⟨1, rfl, by omega, by omega, rfl, rfl⟩
  case round =>
    obtain ⟨k, rfl, hk0, hk, hp, rfl⟩ := hrel
    have i1 : IntKind.i64.wrap ((n : Int) - (k : Int)) = (n : Int) - (k : Int) := IntWalk.i64_in _ (by omega)
    have i2 : IntKind.i64.wrap ((k : Int) + (k : Int)) = (k : Int) + (k : Int) := IntWalk.i64_in _ (by omega)
    by_cases hlt : 2 * k < n
    · have hp2 : partF n (2 * k) = mpart n := by rw [← partF_go hk0 hlt]; exact hp
      have HP := Lib.hid hp2
      clear hp hp2
      have e1 : (k : Int) < (n : Int) - (k : Int) := by omega
      go_wp2_with fail
      go_roundw
      case rel => exact ⟨2 * k, by go_num, by omega, by omega, HP.out, trivial⟩
      case measure => simp [intOf]; omega
    · rw [partF_stop hlt] at hp
      subst hp
      have e1 : ¬ (mpart n : Int) < (n : Int) - (mpart n : Int) := by omega
      go_wp2_with fail
      go_ret
      exact ⟨rfl, rfl⟩

set_option maxHeartbeats 2000000 in
set_option maxRecDepth 100000 in
theorem root_any (n : Nat) : ∀ (a : Option Addr) (cap : Nat) (ls : List (List UInt8)) (w : World), LL w a n cap ls → (∀ x ∈ ls, x.length ≤ 1000) → n ≤ 1000 →
    Calls Try.prog 29 #[.slice a n cap] w fun e w' => ∃ v, e = .returned v ∧ Own w' w.heap.size v (mroot ls) ∧ Below w.heap.size w w' := by
  induction n using Nat.strongRecOn with
  | _ n ih =>
  intro a cap ls w hL hx hn
  have IH := Lib.hid ih
  clear ih
  have HX := Lib.hid hx
  clear hx
  by_cases h0 : n = 0
  · subst h0
    have hl := hL.1
    obtain rfl := List.length_eq_zero_iff.1 hl
    rw [mroot_nil]
    clear hl hL
    go_enter Try.func29, Try.ntmps29
    go_wp2_with fail
    refine (shasum_any none 0 0 [] w (Bs.nil w) (by omega)).mono ?_
    rintro e w1 ⟨v, rfl, hO, hb⟩
    go_wp2_with fail
    go_ret
    exact ⟨_, rfl, hO, hb⟩
  · by_cases h1 : n = 1
    · subst h1
      obtain ⟨b, off, rfl, hb, hc⟩ := hL.at (by omega)
      obtain ⟨a', m, c, hc1, hB⟩ := hc 0 (by omega)
      clear hc
      obtain ⟨x, rfl⟩ := List.length_eq_one_iff.1 hL.1
      rw [mroot_one]
      have hB : Bs w a' m c x := hB
      have hxl : m ≤ 1000 := by rw [← hB.1]; exact HX.out x (by simp)
      have HB := Lib.hid hB
      rw [Nat.add_zero] at hc1
      clear hB hL
      go_enter Try.func29, Try.ntmps29
      go_wp2_with fail
      refine (shaleaf_any a' m c x w HB.out (by omega)).mono ?_
      rintro e w1 ⟨v, rfl, hO, hb⟩
      go_wp2_with fail
      go_ret
      exact ⟨_, rfl, hO, hb⟩
    · have hp := mpart_spec (n := n) (by omega)
      have hll := hL.1
      have hcap := hL.2.1
      have HR : Hid (mroot ls = sha (1 :: (mroot (ls.take (mpart n)) ++ mroot (ls.drop (mpart n))))) := Lib.hid (by rw [mroot_more (by omega), hll])
      have hx1 : ∀ x ∈ ls.take (mpart n), x.length ≤ 1000 := fun x h => HX.out x (List.mem_of_mem_take h)
      have hx2 : ∀ x ∈ ls.drop (mpart n), x.length ≤ 1000 := fun x h => HX.out x (List.mem_of_mem_drop h)
      have hT := hL.take (k := mpart n) (by omega)
      have hD := hL.drop (k := mpart n) (by omega)
      obtain ⟨ad, had⟩ : ∃ ad, (if cap = mpart n then a else a.map (·.add (mpart n))) = ad := ⟨_, rfl⟩
      rw [had] at hD
      have HT := Lib.hid hT
      have HD := Lib.hid hD
      have HP := Lib.hid hp
      have e1 : (0 : Int) ≤ ((mpart n : Nat) : Int) := by omega
      have e2 : ((mpart n : Nat) : Int) ≤ (n : Int) := by omega
      have e3 : ((mpart n : Nat) : Int) ≤ (cap : Int) := by omega
      have e4 : mpart n ≤ n := by omega
      have e5 : mpart n ≤ cap := by omega
      have g0 : ((n : Int) == 0) = false := by rw [beq_eq_false_iff_ne]; omega
      have g1 : ((n : Int) == 1) = false := by rw [beq_eq_false_iff_ne]; omega
      clear hll hT hD hp hL
      have HPA := Lib.hid (fun W => part_any n W (by omega))
      skip
      go_enter Try.func29, Try.ntmps29
      go_wp2_with fail
      refine (HPA.out _).mono ?_
      rintro e wq ⟨rfl, rfl⟩
      go_upto_region 4 with fail
      obtain ⟨wd, hwd⟩ : ∃ wd, wd = w.drew := ⟨_, rfl⟩
      have hb : Below w.heap.size w wd := by rw [hwd]; exact (Below.refl _ _).drew
      clear hb
      refine held_start (by kernel_rfl) (fun hHeld => ?_)
      rw [← hwd] at hHeld ⊢
      have HWD := Lib.hid (show Below w.heap.size w wd by rw [hwd]; exact (Below.refl _ _).drew)
      have hT := HT.out.below HWD.out
      have hD := HD.out.below HWD.out
      clear hwd
      refine held_take (i := 0) (v := ?_) 10 rfl (by kernel_rfl) (by kernel_rfl) (by kernel_rfl) (fun _ _ _ h => h) rfl (by assumption) (Or.inl ⟨by rfl, ?_⟩) ?_
      rotate_left
      · intro w hSw; go_simp; (try with_reducible rfl)
      simp only [List.set_cons_zero, List.set_cons_succ]
      refine held_take (i := 1) (v := ?_) 11 rfl (by kernel_rfl) (by kernel_rfl) (by kernel_rfl) (fun _ _ _ h => h) rfl (by assumption) (Or.inl ⟨by rfl, ?_⟩) ?_
      rotate_left
      · intro w hSw; go_simp; (try with_reducible rfl)
      simp only [List.set_cons_zero, List.set_cons_succ]
      refine held_take (i := 2) (v := ?_) 12 rfl (by kernel_rfl) (by kernel_rfl) (by kernel_rfl) (fun _ _ _ h => h) rfl (by assumption) (Or.inl ⟨by rfl, ?_⟩) ?_
      rotate_left
      · intro w hSw; go_simp; (try with_reducible rfl)
      simp only [List.set_cons_zero, List.set_cons_succ]
      refine held_take (i := 4) (v := ?_) 14 rfl (by kernel_rfl) (by kernel_rfl) (by kernel_rfl) (fun _ _ _ h => h) rfl (by assumption) (Or.inl ⟨by rfl, ?_⟩) ?_
      rotate_left
      · intro w hSw; go_simp; (try with_reducible rfl)
      simp only [List.set_cons_zero, List.set_cons_succ]
      refine held_take (i := 5) (v := ?_) 15 rfl (by kernel_rfl) (by kernel_rfl) (by kernel_rfl) (fun _ _ _ h => h) rfl (by assumption) (Or.inl ⟨by rfl, ?_⟩) ?_
      rotate_left
      · intro w hSw; go_simp; (try with_reducible rfl)
      simp only [List.set_cons_zero, List.set_cons_succ]
      refine held_take (i := 6) (v := ?_) 16 rfl (by kernel_rfl) (by kernel_rfl) (by kernel_rfl) (fun _ _ _ h => h) rfl (by assumption) (Or.inl ⟨by rfl, ?_⟩) ?_
      rotate_left
      · intro w hSw; go_simp; (try with_reducible rfl)
      simp only [List.set_cons_zero, List.set_cons_succ]
      refine wpAnyH_ready (rs := [3]) (by kernel_rfl) (by simp) ?_
      refine (AllReadyH.cons rfl (fun K hK => ?_) AllReadyH.nil)
      go_simp
      refine (IH.out (mpart n) HP.out.1 _ _ _ _ (hT.below hHeld) hx1 (by omega)).mono ?_
      rintro e w1x ⟨v1, rfl, hO1, hb⟩
      have hbt := HB.trans hHeld hb
      obtain ⟨a1, c1, rfl, hB1⟩ := hO1.bsn (n := 32) (mroot_length _)
      go_wp2_with fail
      refine hK.out _ _ hbt (fun _ => ?_)
      clear hK hHeld K
      have hHeld := hbt
      clear hb hbt
      refine wpAnyH_ready (rs := [7]) (by kernel_rfl) (by simp) ?_
      refine (AllReadyH.cons rfl (fun K hK => ?_) AllReadyH.nil)
      go_simp
      refine (IH.out (n - mpart n) (by have := HP.out; omega) _ _ _ _ (hD.below hHeld) hx2 (by omega)).mono ?_
      rintro e w2x ⟨v2, rfl, hO2, hb⟩
      have hbt := HB.trans hHeld hb
      have hB1 := hB1.below hb
      obtain ⟨a2, c2, rfl, hB2⟩ := hO2.bsn (n := 32) (mroot_length _)
      go_wp2_with fail
      refine hK.out _ _ hbt (fun _ => ?_)
      clear hK hHeld K
      have hHeld := hbt
      clear hb hbt
      refine wpAnyH_ready (rs := [8]) (by kernel_rfl) (by simp) ?_
      refine (AllReadyH.cons rfl (fun K hK => ?_) AllReadyH.nil)
      go_simp
      refine (shapair_any _ _ _ _ _ _ _ _ _ hB1 hB2 (by omega)).mono ?_
      rintro e w3x ⟨v3, rfl, hO3, hb⟩
      have hbt := HB.trans hHeld hb
      have hB1 := hB1.below hb
      have hB2 := hB2.below hb
      have hO3 := hO3.weaken (B := wd.heap.size) (Below.size hHeld)
      go_wp2_with fail
      refine hK.out _ _ hbt (fun _ => ?_)
      clear hK hHeld K
      have hHeld := hbt
      clear hb hbt
      refine held_take (i := 9) (v := ?_) 2 rfl (by kernel_rfl) (by kernel_rfl) (by kernel_rfl) (fun _ _ _ h => h) rfl (by assumption) (Or.inl ⟨by rfl, ?_⟩) ?_
      rotate_left
      · intro w hSw; go_simp; (try with_reducible rfl)
      simp only [List.set_cons_zero, List.set_cons_succ]
      refine wpAnyH_done (by kernel_rfl) ?_ _
      go_wp2_with fail
      go_ret
      rw [HR.out]
      exact ⟨_, rfl, hO3.weaken (Below.size HWD.out), Below.trans HWD.out (Below.mono hHeld (Below.size HWD.out))⟩
end Go.Proofs.Ytdglhonogopciaa
