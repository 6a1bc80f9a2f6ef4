/- The contract of the document's ReadSuper. -/
import Derived.Test.YtmedamofmlkccaaRefSuper
import Derived.Deep.QuietTactic
namespace Go.Proofs.Ytmedamofmlkccaa
open Go.RowKit

theorem sup_parts (xs : List UInt8) (h : xs.length = 128) : supN xs = xs[6].toNat * 256 + xs[7].toNat ∧ supId xs = (xs.drop 8).take 16 := by
  have h1 : rdRaw (xs, 0) 4 = (xs.take 4, (xs.drop 4, 0)) := by
    have := rdRaw_app (xs.take 4) (xs.drop 4) 4 (by simp; omega)
    rwa [List.take_append_drop] at this
  have h2 : (rdShort (xs.drop 4, 0)).2 = (xs.drop 6, 0) := by
    have := rdRaw_app ((xs.drop 4).take 2) ((xs.drop 4).drop 2) 2 (by simp; omega)
    rw [List.take_append_drop, List.drop_drop] at this
    unfold rdShort
    rw [this]
  have h3 : rdShort (xs.drop 6, 0) = (xs[6].toNat * 256 + xs[7].toNat, (xs.drop 8, 0)) := by
    have e : xs.drop 6 = [xs[6], xs[7]] ++ xs.drop 8 := by
      rw [List.drop_eq_getElem_cons (by omega), List.drop_eq_getElem_cons (by omega)]
      rfl
    have := rdRaw_app [xs[6], xs[7]] (xs.drop 8) 2 rfl
    rw [← e] at this
    unfold rdShort
    rw [this]
    simp [num]
  have h4 : (rdRaw (xs.drop 8, 0) 16).1 = (xs.drop 8).take 16 := by
    have := rdRaw_app ((xs.drop 8).take 16) ((xs.drop 8).drop 16) 16 (by simp; omega)
    rw [List.take_append_drop] at this
    rw [this]
  unfold supN supId
  rw [h1]
  simp only
  rw [h2, h3]
  simp only
  first | exact ⟨rfl, h4⟩ | exact ⟨trivial, h4⟩
theorem or_byte_i64 (n c : Nat) (hn : n < 256) (hc : c < 256) : bits .or .i64 ((n : Int) * 256) (c : Int) = ((n * 256 + c : Nat) : Int) := by
  have e1 : ((n : Int) * 256) = ((n * 256 : Nat) : Int) := by omega
  have ho : n * 256 ||| c = n * 256 + c := by
    have := Nat.two_pow_add_eq_or_of_lt (i := 8) (b := c) (by omega) n
    rw [Nat.mul_comm] at this
    exact this.symm
  rw [e1]
  show IntKind.i64.wrap ((BitVec.ofInt 64 ((n * 256 : Nat) : Int) ||| BitVec.ofInt 64 (c : Int)).toNat : Int) = _
  rw [BitVec.toNat_or, ofInt_u64 _ (by omega), ofInt_u64 c (by omega), ho, IntKind.wrap_i64]
  omega
theorem supOk_len (xs : List UInt8) (h : SupOk xs) : xs.length = 128 := by
  obtain ⟨_, _, h3, h4⟩ := h
  rw [← h4]
  exact supBytes_length _ _ h3

set_option maxHeartbeats 2000000 in
set_option maxRecDepth 100000 in
theorem rrsup_any (a : Option Addr) (len cap : Nat) (xs : List UInt8) (w : World) (h : Bs w a len cap xs) :
    Calls Try.prog 82 #[.slice a len cap] w fun e w' => ((SupOk xs ∧ ∃ v, e = .returned (.tuple #[.int .i64 (supN xs : Int), v, .int .i64 0]) ∧ Own w' w.heap.size v (supId xs)) ∨
      (¬ SupOk xs ∧ e = .returned (.tuple #[.int .i64 0, .slice none 0 0, .int .i64 41]))) ∧ Below w.heap.size w w' := by
  have hxl := h.1
  by_cases hl : len = 128
  · subst hl
    have hs := sup_parts xs hxl
    obtain ⟨b, off, rfl, hb, hc⟩ : ∃ b off, a = some ⟨b, off, none⟩ ∧ b < w.heap.size ∧ ∀ i (h : i < xs.length), w.cell? ⟨b, off + i, none⟩ = some (.int .u8 (xs[i].toNat : Int)) := by
      rcases h.2.2.2 with h0 | h0
      · omega
      · exact h0
    have c6 := hc 6 (by omega)
    have c7 := hc 7 (by omega)
    have l6 := UInt8.toNat_lt xs[6]
    have l7 := UInt8.toNat_lt xs[7]
    have HS := Lib.hid hs
    generalize xs[6].toNat = n6 at *
    generalize xs[7].toNat = n7 at *
    clear hc hs
    go_enter Try.func82, Try.ntmps82
    go_upto_region 3 with fail
    refine wp_region_over rfl (by kernel_rfl) ?_
    repeat (go_big_quiet_step (fail))
    rintro _ ⟨nq, rfl⟩
    have hor : bits .or .i64 ((n6 : Int) * 256) (n7 : Int) = ((n6 * 256 + n7 : Nat) : Int) := or_byte_i64 n6 n7 (by omega) (by omega)
    rw [hor]
    have h' := h.over nq
    have hE0 : Ext w.heap.size w (World.over w nq) := ⟨below_over w nq, (below_over w nq).size⟩
    generalize World.over w nq = w0 at *
    have hcap := h.2.1
    have hS := (h'.drop (k := 8) (by omega)).take (k := 16) (by omega)
    rw [if_neg (by omega), show (some (⟨b, off, none⟩ : Addr)).map (·.add 8) = some ⟨b, off + 8, none⟩ from by simp [Addr.add]] at hS
    obtain ⟨hn, hid⟩ := HS.out
    rw [← hid] at hS
    have hidl : (supId xs).length = 16 := hS.1
    rw [← hn]
    have hnlt : supN xs < 65536 := by rw [hn]; omega
    clear hor c6 c7 l6 l7 hn hid
    have hO := Own.empty w0
    have hE1 := hE0.alloc (.cells #[] TB)
    have hS1 := hS.alloc (.cells #[] TB)
    have h1 := h'.alloc (.cells #[] TB)
    have hc8 : ¬ cap = 8 := by omega
    have q1 : (24 : Int) ≤ (cap : Int) := by omega
    clear hS h hcap hb
    go_wp2_with (at_builtin; refine wpList_append_bytes rfl _ _ rfl w0.heap.size _ [] rfl hO (some ⟨b, off + 8, none⟩) 16 (cap - 8) (supId xs) rfl hS1 (by simp) (by simp) ?hk)
    intro v1 w1 ho1 hg1 _
    have hb1 : Below w0.heap.size w0 w1 := (((Ext.refl w0).alloc (.cells #[] TB)).grown hg1 hO.blk).1
    have hE2 := hE0.step hb1
    have h2 := h'.below hb1
    have ho1 := ho1.base hE0.2
    obtain ⟨a1, c1, rfl, hL1⟩ := ho1.bsn hidl
    clear hO hE1 hS1 h1 hg1 hb1 hc8 q1
    have hd : SupOk xs ↔ (64 ≤ supN xs ∧ supN xs ≤ 4096) ∧ supBytes (supN xs) (supId xs) = xs := ⟨fun ⟨q1, q2, _, q4⟩ => ⟨⟨q1, q2⟩, q4⟩, fun ⟨⟨q1, q2⟩, q4⟩ => ⟨q1, q2, hidl, q4⟩⟩
    have HD := Lib.hid hd
    clear hd
    generalize hNx : supN xs = N at *
    have HN := Lib.hid hNx
    clear hNx
    by_cases hN : 64 ≤ N ∧ N ≤ 4096
    · go_wp2_with fail
      refine (rsuper_ok N a1 c1 (supId xs) w1 hL1 hN.1 hN.2).mono ?_
      rintro e w2 ⟨v2, rfl, ho2, hb2⟩
      obtain ⟨a2, c2, rfl, hL2⟩ := ho2.bs
      have hE3 := hE2.step hb2
      have h3 := h2.below hb2
      have ho3 := ho1.below hb2
      have s1 := run_string hL2
      have s2 := run_string h3
      by_cases heq : supBytes N (supId xs) = xs
      · have z1 : ((strOf (supBytes N (supId xs))).toList == (strOf xs).toList) = true := by rw [heq]; exact beq_self_eq_true _
        have HQ := Lib.hid (HD.out.2 ⟨hN, heq⟩)
        clear hL2 ho2 heq hN hnlt
        go_wp2_with fail
        go_ret3
        exact ⟨.inl ⟨HQ.out, .slice a1 16 c1, by rw [HN.out]; rfl, ho3⟩, hE3.1⟩
      · have z1 : ((strOf (supBytes N (supId xs))).toList == (strOf xs).toList) = false := by rw [strOf_toList, strOf_toList]; exact beq_eq_false_iff_ne.2 heq
        have HQ := Lib.hid (fun hok => heq (HD.out.1 hok).2)
        clear hL2 ho2 heq hN hnlt
        go_wp2_with fail
        go_ret3
        exact ⟨.inr ⟨HQ.out, rfl⟩, hE3.1⟩
    · have HQ := Lib.hid (fun hok => hN (HD.out.1 hok).1)
      go_wp2_with fail
      refine (rsuper_no N a1 16 c1 w1 (by omega)).mono ?_
      rintro e w2 ⟨rfl, hb2⟩
      have hE3 := hE2.step hb2
      clear hN
      go_wp2_with fail
      go_ret3
      exact ⟨.inr ⟨HQ.out, rfl⟩, hE3.1⟩
  · have hne : ((len : Int) != 128) = true := by rw [bne_iff_ne]; omega
    go_enter Try.func82, Try.ntmps82
    go_wp2_with fail
    go_ret3
    exact ⟨.inr ⟨fun hok => hl (by rw [← hxl]; exact supOk_len xs hok), rfl⟩, Below.refl _ _⟩
end Go.Proofs.Ytmedamofmlkccaa
