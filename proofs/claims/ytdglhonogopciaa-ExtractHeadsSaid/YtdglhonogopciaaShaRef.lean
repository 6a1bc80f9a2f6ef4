/- The contract of permafrostref2.Sum. -/
import Derived.Test.YtdglhonogopciaaShaRefb
import Derived.Test.YtdglhonogopciaaShaRefc
namespace Go.Proofs.Ytdglhonogopciaa
open Go.RowKit
set_option linter.unusedVariables false

set_option maxHeartbeats 8000000 in
set_option maxRecDepth 100000 in
theorem rsum_any (a : Option Addr) (len cap : Nat) (xs : List UInt8) (w : World) (h : Bs w a len cap xs) (hl : len ≤ 1000000) :
    Calls Try.prog 15 #[.slice a len cap] w fun e w' => ∃ v, e = .returned v ∧ Own w' w.heap.size v (sha xs) ∧ Below w.heap.size w w' := by
  obtain ⟨B, hBz⟩ : ∃ B, B = w.heap.size := ⟨_, rfl⟩
  have hxl := h.1
  obtain ⟨Z, hZ⟩ : ∃ Z, Z = (119 - len % 64) % 64 := ⟨_, rfl⟩
  have hZ1 : (len + 1 + Z) % 64 = 56 := by omega
  have hZ2 : ∀ k, k < Z → (len + 1 + k) % 64 ≠ 56 := by omega
  have hZ3 : Z < 64 := by omega
  have HZ := Lib.hid (And.intro hZ1 (And.intro hZ2 hZ))
  have HX := Lib.hid hxl
  have hO := Own.empty' w
  have hB1 := h.alloc (.cells #[] TB)
  have hE1 := (Ext.refl w).alloc (.cells #[] TB)
  rw [← hBz] at hE1 ⊢
  have HBZ := Lib.hid hBz
  clear hZ hZ1 hZ2 hBz hxl h
  go_enter Try.func15, Try.ntmps15
  go_wp2_with (at_builtin; refine wpList_append_bytes rfl _ _ rfl w.heap.size _ [] rfl hO a len cap xs rfl hB1 (by simp; omega) (by simp) ?_)
  intro v1 w1 ho1 hg1 _
  have hE2 : Ext B w w1 := hE1.grown hg1 (fun k hk => by have := (World.ownsRow.lt hO k hk).1; rw [HBZ.out]; exact this)
  have ho1 : Own w1 B v1 xs := by rw [HBZ.out]; simpa using ho1
  clear hO hB1 hE1 hg1
  have hxm : xs.length ≤ 2000000 := by rw [HX.out]; omega
  go_wp2_with (at_builtin; refine append_byte hE2 ho1 _ 0x80 rfl hxm rfl _ _ rfl rfl rfl ?_)
  intro v2 w2 hE3 ho2 _
  rw [padZ_zero] at ho2
  clear hE2 ho1
  go_upto_block 0 with fail
  obtain ⟨a2, c2, rfl, _⟩ := ho2.bsn (n := len + 1) (by rw [padZ_length, HX.out])
  refine rs_pad w _ B len xs Z a2 c2 HX hl HZ hZ3 hE3 ho2 _ _ _ _ _ _ _ _ _ _ _ _ _ _ _ _ _ _ _ _ _ _ _ _ _ _ _ _ _ _ _ _ _ _ _ _ _ _ _ _ _ _ _ _ _ _ _ _ _ _ _ _ _ _ _ _ _ _ _ _ _ _ _ _ _ _ _ _ _ _ _ _ _ _ _ _ _ _ _ _ _ _ _ _ _ _ _ _ _ _ _ _ _ _ _ _ _ _ _ _ _ _ _ _ _ _ _ _ _ _ _ _ _ _ _ _ _ _ _ _ _ _ _ _ _ _ _ _ _ _ _ _ _ _ _ _ _ _ _ _ _ _ _ _ _ _ _ _ _ _ _ _ _ _ _ _ _ _ _ _ _ _ _ _ _ _ _ _ _ _ _ _ _ _ _ _ _ _ _ _ _ _ _ _ _ _ _ _ _ _ _ _ _ _ _ _ _ _ _ _ _ _ _ _ _ _ _ _ _ _ _ _ _ _ _ _ _ _ _ _ _ _ _ _ _ _ _ _ _ _ _ _ _ _ _ _ _ _ _ _ _ _ _ _ _ _ _ _ _ _ _ _ _ _ _ _ _ _ _ _ _ _ _ _ _ _ _ _ ?rest0
  case rest0 =>
    intro _ wc hinv
    obtain ⟨u3, hinv⟩ := hinv
    obtain ⟨u27, hinv⟩ := hinv
    obtain ⟨u28, hinv⟩ := hinv
    obtain ⟨u29, hinv⟩ := hinv
    obtain ⟨u30, hinv⟩ := hinv
    obtain ⟨u31, hinv⟩ := hinv
    obtain ⟨u32, hinv⟩ := hinv
    obtain ⟨u33, hinv⟩ := hinv
    obtain ⟨hcut, ha⟩ := hinv
    subst ha
    obtain ⟨hE, ho⟩ := hcut
    clear hE3 ho2
    have hpl : (padZ xs Z).length ≤ 1000100 := by rw [padZ_length, HX.out]; omega
    go_upto_block 2 with fail
    refine rs_len w _ B len xs Z _ hl hZ3 hpl HX HZ hE ho _ _ _ _ _ _ _ _ _ _ _ _ _ _ _ _ _ _ _ _ _ _ _ _ _ _ _ _ _ _ _ _ _ _ _ _ _ _ _ _ _ _ _ _ _ _ _ _ _ _ _ _ _ _ _ _ _ _ _ _ _ _ _ _ _ _ _ _ _ _ _ _ _ _ _ _ _ _ _ _ _ _ _ _ _ _ _ _ _ _ _ _ _ _ _ _ _ _ _ _ _ _ _ _ _ _ _ _ _ _ _ _ _ _ _ _ _ _ _ _ _ _ _ _ _ _ _ _ _ _ _ _ _ _ _ _ _ _ _ _ _ _ _ _ _ _ _ _ _ _ _ _ _ _ _ _ _ _ _ _ _ _ _ _ _ _ _ _ _ _ _ _ _ _ _ _ _ _ _ _ _ _ _ _ _ _ _ _ _ _ _ _ _ _ _ _ _ _ _ _ _ _ _ _ _ _ _ _ _ _ _ _ _ _ _ _ _ _ _ _ _ _ _ _ _ _ _ _ _ _ _ _ _ _ _ _ _ _ _ _ _ _ _ _ _ _ _ _ _ _ _ _ _ _ _ _ _ _ _ _ _ _ _ _ _ _ ?rest1
    case rest1 =>
      intro _ wc hinv
      obtain ⟨u3, hinv⟩ := hinv
      obtain ⟨u5, hinv⟩ := hinv
      obtain ⟨u38, hinv⟩ := hinv
      obtain ⟨u39, hinv⟩ := hinv
      obtain ⟨u40, hinv⟩ := hinv
      obtain ⟨u41, hinv⟩ := hinv
      obtain ⟨u42, hinv⟩ := hinv
      obtain ⟨u43, hinv⟩ := hinv
      obtain ⟨u44, hinv⟩ := hinv
      obtain ⟨u45, hinv⟩ := hinv
      obtain ⟨u46, hinv⟩ := hinv
      obtain ⟨u47, hinv⟩ := hinv
      obtain ⟨u48, hinv⟩ := hinv
      obtain ⟨u49, hinv⟩ := hinv
      obtain ⟨hcut, ha⟩ := hinv
      subst ha
      obtain ⟨hE, ho⟩ := hcut
      have hsha : sha xs = (blocks ((padTo xs len).length / 64) begunS (padTo xs len)).bytes := by unfold sha; rw [HX.out]
      have hml := padTo_length xs len
      have hmp := padTo_pos xs len
      rw [HX.out] at hml
      have HSHA := Lib.hid hsha
      clear hpl HX HZ hZ3 hxm hsha
      generalize padTo xs len = m at *
      obtain ⟨hm1, hm2⟩ := hml
      obtain ⟨Q, hQ⟩ : ∃ Q, Q = m.length / 64 := ⟨_, rfl⟩
      rw [← hQ] at hm1 HSHA
      have hQ2 : Q ≤ 20000 := by omega
      obtain ⟨am, cm, rfl, hBm⟩ := ho.bsn hm1
      have hmc := hBm.2.1
      clear hQ hm2
      have hgm : ∃ gm, am = some ⟨gm, 0, none⟩ ∧ B ≤ gm ∧ gm < wc.heap.size := by
        rcases ho.parts with ⟨h1, h2⟩ | ⟨g, c, h1, h2, h3⟩
        · rw [h2] at hmp; simp at hmp
        · injection h1 with h1; exact ⟨g, h1, h2, h3.lt⟩
      obtain ⟨gm, rfl, hgB, hgm⟩ := hgm
      have hE8 := hE.alloc (.cells #[.int .u32 0, .int .u32 0, .int .u32 0, .int .u32 0, .int .u32 0, .int .u32 0, .int .u32 0, .int .u32 0] 50)
      have hz8 := heap_alloc_new wc (.cells #[.int .u32 0, .int .u32 0, .int .u32 0, .int .u32 0, .int .u32 0, .int .u32 0, .int .u32 0, .int .u32 0] 50)
      have hB8 := hBm.alloc (.cells #[.int .u32 0, .int .u32 0, .int .u32 0, .int .u32 0, .int .u32 0, .int .u32 0, .int .u32 0, .int .u32 0] 50)
      have hs8 := lt_new wc (.cells #[.int .u32 0, .int .u32 0, .int .u32 0, .int .u32 0, .int .u32 0, .int .u32 0, .int .u32 0, .int .u32 0] 50)
      obtain ⟨gh, hgh⟩ : ∃ gh, gh = wc.heap.size := ⟨_, rfl⟩
      rw [← hgh] at hz8 hs8 hgm
      have hghB : B ≤ gh := by omega
      have HGH := Lib.hid hgh
      have HZ8 := Lib.hid hz8
      clear hgh hz8 ho
      go_upto_region 10 with (first | (refine wpList_build_to rfl TA8 _ rfl BV (by kernel_rfl) ?_) | (refine wpList_store_row rfl TA8 _ _ rfl wc.heap.size BV rfl rfl TA8 _ (by rw [← HGH.out]; exact HZ8.out) (by kernel_rfl) (by kernel_rfl) (by kernel_rfl) ?_))
      rw [← HGH.out]
      have hE9 := hE8.setRow hghB BV
      have hH9 : SB ((wc.alloc (.cells #[.int .u32 0, .int .u32 0, .int .u32 0, .int .u32 0, .int .u32 0, .int .u32 0, .int .u32 0, .int .u32 0] 50)).setRow gh BV) gh TA8 [] begunS.list [] := SB.ofRow begunS.list HZ8.out
      have hB9 := (Chg.ofSetRow (wc.alloc (.cells #[.int .u32 0, .int .u32 0, .int .u32 0, .int .u32 0, .int .u32 0, .int .u32 0, .int .u32 0, .int .u32 0] 50)) gh BV).bs hB8 (fun ad he => by cases he; show ¬ gm = gh; omega)
      have hs9 : gh < ((wc.alloc (.cells #[.int .u32 0, .int .u32 0, .int .u32 0, .int .u32 0, .int .u32 0, .int .u32 0, .int .u32 0, .int .u32 0] 50)).setRow gh BV).heap.size := by simpa using hs8
      clear hE8 hB8 HZ8 hs8 hE hBm
      generalize (wc.alloc (.cells #[.int .u32 0, .int .u32 0, .int .u32 0, .int .u32 0, .int .u32 0, .int .u32 0, .int .u32 0, .int .u32 0] 50)).setRow gh BV = w9 at *
      have hz9 := heap_alloc_new w9 (.cells #[.int .u32 0, .int .u32 0, .int .u32 0, .int .u32 0, .int .u32 0, .int .u32 0, .int .u32 0, .int .u32 0, .int .u32 0, .int .u32 0, .int .u32 0, .int .u32 0, .int .u32 0, .int .u32 0, .int .u32 0, .int .u32 0, .int .u32 0, .int .u32 0, .int .u32 0, .int .u32 0, .int .u32 0, .int .u32 0, .int .u32 0, .int .u32 0, .int .u32 0, .int .u32 0, .int .u32 0, .int .u32 0, .int .u32 0, .int .u32 0, .int .u32 0, .int .u32 0, .int .u32 0, .int .u32 0, .int .u32 0, .int .u32 0, .int .u32 0, .int .u32 0, .int .u32 0, .int .u32 0, .int .u32 0, .int .u32 0, .int .u32 0, .int .u32 0, .int .u32 0, .int .u32 0, .int .u32 0, .int .u32 0, .int .u32 0, .int .u32 0, .int .u32 0, .int .u32 0, .int .u32 0, .int .u32 0, .int .u32 0, .int .u32 0, .int .u32 0, .int .u32 0, .int .u32 0, .int .u32 0, .int .u32 0, .int .u32 0, .int .u32 0, .int .u32 0] 51)
      have hE10 := (hE9.alloc (.cells #[.int .u32 0, .int .u32 0, .int .u32 0, .int .u32 0, .int .u32 0, .int .u32 0, .int .u32 0, .int .u32 0, .int .u32 0, .int .u32 0, .int .u32 0, .int .u32 0, .int .u32 0, .int .u32 0, .int .u32 0, .int .u32 0, .int .u32 0, .int .u32 0, .int .u32 0, .int .u32 0, .int .u32 0, .int .u32 0, .int .u32 0, .int .u32 0, .int .u32 0, .int .u32 0, .int .u32 0, .int .u32 0, .int .u32 0, .int .u32 0, .int .u32 0, .int .u32 0, .int .u32 0, .int .u32 0, .int .u32 0, .int .u32 0, .int .u32 0, .int .u32 0, .int .u32 0, .int .u32 0, .int .u32 0, .int .u32 0, .int .u32 0, .int .u32 0, .int .u32 0, .int .u32 0, .int .u32 0, .int .u32 0, .int .u32 0, .int .u32 0, .int .u32 0, .int .u32 0, .int .u32 0, .int .u32 0, .int .u32 0, .int .u32 0, .int .u32 0, .int .u32 0, .int .u32 0, .int .u32 0, .int .u32 0, .int .u32 0, .int .u32 0, .int .u32 0] 51)).setRow hE9.2 KV
      have hK10 : SB ((w9.alloc (.cells #[.int .u32 0, .int .u32 0, .int .u32 0, .int .u32 0, .int .u32 0, .int .u32 0, .int .u32 0, .int .u32 0, .int .u32 0, .int .u32 0, .int .u32 0, .int .u32 0, .int .u32 0, .int .u32 0, .int .u32 0, .int .u32 0, .int .u32 0, .int .u32 0, .int .u32 0, .int .u32 0, .int .u32 0, .int .u32 0, .int .u32 0, .int .u32 0, .int .u32 0, .int .u32 0, .int .u32 0, .int .u32 0, .int .u32 0, .int .u32 0, .int .u32 0, .int .u32 0, .int .u32 0, .int .u32 0, .int .u32 0, .int .u32 0, .int .u32 0, .int .u32 0, .int .u32 0, .int .u32 0, .int .u32 0, .int .u32 0, .int .u32 0, .int .u32 0, .int .u32 0, .int .u32 0, .int .u32 0, .int .u32 0, .int .u32 0, .int .u32 0, .int .u32 0, .int .u32 0, .int .u32 0, .int .u32 0, .int .u32 0, .int .u32 0, .int .u32 0, .int .u32 0, .int .u32 0, .int .u32 0, .int .u32 0, .int .u32 0, .int .u32 0, .int .u32 0] 51)).setRow w9.heap.size KV) w9.heap.size T64 [] KK [] := SB.ofRow KK hz9
      have hH10 : SB ((w9.alloc (.cells #[.int .u32 0, .int .u32 0, .int .u32 0, .int .u32 0, .int .u32 0, .int .u32 0, .int .u32 0, .int .u32 0, .int .u32 0, .int .u32 0, .int .u32 0, .int .u32 0, .int .u32 0, .int .u32 0, .int .u32 0, .int .u32 0, .int .u32 0, .int .u32 0, .int .u32 0, .int .u32 0, .int .u32 0, .int .u32 0, .int .u32 0, .int .u32 0, .int .u32 0, .int .u32 0, .int .u32 0, .int .u32 0, .int .u32 0, .int .u32 0, .int .u32 0, .int .u32 0, .int .u32 0, .int .u32 0, .int .u32 0, .int .u32 0, .int .u32 0, .int .u32 0, .int .u32 0, .int .u32 0, .int .u32 0, .int .u32 0, .int .u32 0, .int .u32 0, .int .u32 0, .int .u32 0, .int .u32 0, .int .u32 0, .int .u32 0, .int .u32 0, .int .u32 0, .int .u32 0, .int .u32 0, .int .u32 0, .int .u32 0, .int .u32 0, .int .u32 0, .int .u32 0, .int .u32 0, .int .u32 0, .int .u32 0, .int .u32 0, .int .u32 0, .int .u32 0] 51)).setRow w9.heap.size KV) gh TA8 [] begunS.list [] := (setRow_other _ w9.heap.size gh KV (by omega)).trans (SB.below hH9 ((Below.refl _ _).alloc (Nat.le_refl _) (.cells #[.int .u32 0, .int .u32 0, .int .u32 0, .int .u32 0, .int .u32 0, .int .u32 0, .int .u32 0, .int .u32 0, .int .u32 0, .int .u32 0, .int .u32 0, .int .u32 0, .int .u32 0, .int .u32 0, .int .u32 0, .int .u32 0, .int .u32 0, .int .u32 0, .int .u32 0, .int .u32 0, .int .u32 0, .int .u32 0, .int .u32 0, .int .u32 0, .int .u32 0, .int .u32 0, .int .u32 0, .int .u32 0, .int .u32 0, .int .u32 0, .int .u32 0, .int .u32 0, .int .u32 0, .int .u32 0, .int .u32 0, .int .u32 0, .int .u32 0, .int .u32 0, .int .u32 0, .int .u32 0, .int .u32 0, .int .u32 0, .int .u32 0, .int .u32 0, .int .u32 0, .int .u32 0, .int .u32 0, .int .u32 0, .int .u32 0, .int .u32 0, .int .u32 0, .int .u32 0, .int .u32 0, .int .u32 0, .int .u32 0, .int .u32 0, .int .u32 0, .int .u32 0, .int .u32 0, .int .u32 0, .int .u32 0, .int .u32 0, .int .u32 0, .int .u32 0] 51)))
      have hB10 := (Chg.ofSetRow (w9.alloc (.cells #[.int .u32 0, .int .u32 0, .int .u32 0, .int .u32 0, .int .u32 0, .int .u32 0, .int .u32 0, .int .u32 0, .int .u32 0, .int .u32 0, .int .u32 0, .int .u32 0, .int .u32 0, .int .u32 0, .int .u32 0, .int .u32 0, .int .u32 0, .int .u32 0, .int .u32 0, .int .u32 0, .int .u32 0, .int .u32 0, .int .u32 0, .int .u32 0, .int .u32 0, .int .u32 0, .int .u32 0, .int .u32 0, .int .u32 0, .int .u32 0, .int .u32 0, .int .u32 0, .int .u32 0, .int .u32 0, .int .u32 0, .int .u32 0, .int .u32 0, .int .u32 0, .int .u32 0, .int .u32 0, .int .u32 0, .int .u32 0, .int .u32 0, .int .u32 0, .int .u32 0, .int .u32 0, .int .u32 0, .int .u32 0, .int .u32 0, .int .u32 0, .int .u32 0, .int .u32 0, .int .u32 0, .int .u32 0, .int .u32 0, .int .u32 0, .int .u32 0, .int .u32 0, .int .u32 0, .int .u32 0, .int .u32 0, .int .u32 0, .int .u32 0, .int .u32 0] 51)) w9.heap.size KV).bs (hB9.alloc (.cells #[.int .u32 0, .int .u32 0, .int .u32 0, .int .u32 0, .int .u32 0, .int .u32 0, .int .u32 0, .int .u32 0, .int .u32 0, .int .u32 0, .int .u32 0, .int .u32 0, .int .u32 0, .int .u32 0, .int .u32 0, .int .u32 0, .int .u32 0, .int .u32 0, .int .u32 0, .int .u32 0, .int .u32 0, .int .u32 0, .int .u32 0, .int .u32 0, .int .u32 0, .int .u32 0, .int .u32 0, .int .u32 0, .int .u32 0, .int .u32 0, .int .u32 0, .int .u32 0, .int .u32 0, .int .u32 0, .int .u32 0, .int .u32 0, .int .u32 0, .int .u32 0, .int .u32 0, .int .u32 0, .int .u32 0, .int .u32 0, .int .u32 0, .int .u32 0, .int .u32 0, .int .u32 0, .int .u32 0, .int .u32 0, .int .u32 0, .int .u32 0, .int .u32 0, .int .u32 0, .int .u32 0, .int .u32 0, .int .u32 0, .int .u32 0, .int .u32 0, .int .u32 0, .int .u32 0, .int .u32 0, .int .u32 0, .int .u32 0, .int .u32 0, .int .u32 0] 51)) (fun ad he => by cases he; show ¬ gm = w9.heap.size; omega)
      have hs10 : w9.heap.size < ((w9.alloc (.cells #[.int .u32 0, .int .u32 0, .int .u32 0, .int .u32 0, .int .u32 0, .int .u32 0, .int .u32 0, .int .u32 0, .int .u32 0, .int .u32 0, .int .u32 0, .int .u32 0, .int .u32 0, .int .u32 0, .int .u32 0, .int .u32 0, .int .u32 0, .int .u32 0, .int .u32 0, .int .u32 0, .int .u32 0, .int .u32 0, .int .u32 0, .int .u32 0, .int .u32 0, .int .u32 0, .int .u32 0, .int .u32 0, .int .u32 0, .int .u32 0, .int .u32 0, .int .u32 0, .int .u32 0, .int .u32 0, .int .u32 0, .int .u32 0, .int .u32 0, .int .u32 0, .int .u32 0, .int .u32 0, .int .u32 0, .int .u32 0, .int .u32 0, .int .u32 0, .int .u32 0, .int .u32 0, .int .u32 0, .int .u32 0, .int .u32 0, .int .u32 0, .int .u32 0, .int .u32 0, .int .u32 0, .int .u32 0, .int .u32 0, .int .u32 0, .int .u32 0, .int .u32 0, .int .u32 0, .int .u32 0, .int .u32 0, .int .u32 0, .int .u32 0, .int .u32 0] 51)).setRow w9.heap.size KV).heap.size := by simp
      have HZ9 := Lib.hid hz9
      have hR := RInv.mk (cm := cm) hE10 hB10 hH10 hK10
      clear hz9 hE9 hH9 hB9 hE10 hK10 hH10 hB10 HGH
      go_upto_block 4 with (first | (refine wpList_build_to rfl T64 _ rfl KV (by kernel_rfl) ?_) | (refine wpList_store_row rfl T64 _ _ rfl w9.heap.size KV rfl rfl T64 _ HZ9.out (by kernel_rfl) (by kernel_rfl) (by kernel_rfl) ?_))
      clear HZ9
      generalize (w9.alloc (.cells #[.int .u32 0, .int .u32 0, .int .u32 0, .int .u32 0, .int .u32 0, .int .u32 0, .int .u32 0, .int .u32 0, .int .u32 0, .int .u32 0, .int .u32 0, .int .u32 0, .int .u32 0, .int .u32 0, .int .u32 0, .int .u32 0, .int .u32 0, .int .u32 0, .int .u32 0, .int .u32 0, .int .u32 0, .int .u32 0, .int .u32 0, .int .u32 0, .int .u32 0, .int .u32 0, .int .u32 0, .int .u32 0, .int .u32 0, .int .u32 0, .int .u32 0, .int .u32 0, .int .u32 0, .int .u32 0, .int .u32 0, .int .u32 0, .int .u32 0, .int .u32 0, .int .u32 0, .int .u32 0, .int .u32 0, .int .u32 0, .int .u32 0, .int .u32 0, .int .u32 0, .int .u32 0, .int .u32 0, .int .u32 0, .int .u32 0, .int .u32 0, .int .u32 0, .int .u32 0, .int .u32 0, .int .u32 0, .int .u32 0, .int .u32 0, .int .u32 0, .int .u32 0, .int .u32 0, .int .u32 0, .int .u32 0, .int .u32 0, .int .u32 0, .int .u32 0] 51)).setRow w9.heap.size KV = w10 at *
      generalize w9.heap.size = gk at *
      have HGG : gm < gh ∧ gh < gk := ⟨hgm, hs9⟩
      obtain ⟨n, hn⟩ : ∃ n, n = 64 * Q := ⟨_, rfl⟩
      rw [← hn] at hR hmc ⊢
      have HN := Lib.hid hn
      have hmn : m.length = n := by rw [hm1, hn]
      have HMN := Lib.hid hmn
      have hnQ : n ≤ 1280000 := by omega
      clear hm1 hmp hmn hn
      go_cut [6] (fun p wr => p = .pointer (some ⟨gh, 0, none⟩) ∧ RInv w B gm cm gh gk m n (blocks Q begunS m).list wr)
      case first =>
        go_wp2_with fail
        go_loopw [8] (fun i wr => ∃ q at0 : Nat, q ≤ Q ∧ at0 = 64 * q ∧ i = .int .i64 (at0 : Int) ∧ gk < wr.heap.size ∧ RInv w B gm cm gh gk m n (blocks q begunS m).list wr) (fun i _ => n - (intOf i).toNat)
        case atStart => exact ⟨0, 0, by omega, rfl, rfl, hs10, hR⟩
        case round =>
          obtain ⟨q, at0, hq, hat, rfl, hgkw, hr⟩ := hrel
          have HAT := Lib.hid hat
          clear hR hat
          by_cases hlt : q < Q
          · have hatn : at0 + 64 ≤ n := by have := HAT.out; have := HN.out; omega
            have hat1 : (at0 : Int) < (n : Int) := by omega
            obtain ⟨b, hb⟩ : ∃ b, b = m.drop at0 := ⟨_, rfl⟩
            have hbg : ∀ j, b.getD j 0 = m.getD (at0 + j) 0 := fun j => by rw [hb, List.getD_eq_getElem?_getD, List.getElem?_drop, ← List.getD_eq_getElem?_getD]
            have hnx : blocks (q + 1) begunS m = comp (blocks q begunS m) b := by rw [blocks_add, blocks_one, hb, HAT.out]
            generalize blocks q begunS m = s at *
            have HBG := Lib.hid hbg
            have HNX := Lib.hid hnx
            clear hbg hnx hb
            have hWz := Wd.made wr b
            have hr1 := hr.step ((Below.refl _ _).alloc (Nat.le_refl _) (.cells #[.int .u32 0, .int .u32 0, .int .u32 0, .int .u32 0, .int .u32 0, .int .u32 0, .int .u32 0, .int .u32 0, .int .u32 0, .int .u32 0, .int .u32 0, .int .u32 0, .int .u32 0, .int .u32 0, .int .u32 0, .int .u32 0, .int .u32 0, .int .u32 0, .int .u32 0, .int .u32 0, .int .u32 0, .int .u32 0, .int .u32 0, .int .u32 0, .int .u32 0, .int .u32 0, .int .u32 0, .int .u32 0, .int .u32 0, .int .u32 0, .int .u32 0, .int .u32 0, .int .u32 0, .int .u32 0, .int .u32 0, .int .u32 0, .int .u32 0, .int .u32 0, .int .u32 0, .int .u32 0, .int .u32 0, .int .u32 0, .int .u32 0, .int .u32 0, .int .u32 0, .int .u32 0, .int .u32 0, .int .u32 0, .int .u32 0, .int .u32 0, .int .u32 0, .int .u32 0, .int .u32 0, .int .u32 0, .int .u32 0, .int .u32 0, .int .u32 0, .int .u32 0, .int .u32 0, .int .u32 0, .int .u32 0, .int .u32 0, .int .u32 0, .int .u32 0] 51))
            have hsW := lt_new wr (.cells #[.int .u32 0, .int .u32 0, .int .u32 0, .int .u32 0, .int .u32 0, .int .u32 0, .int .u32 0, .int .u32 0, .int .u32 0, .int .u32 0, .int .u32 0, .int .u32 0, .int .u32 0, .int .u32 0, .int .u32 0, .int .u32 0, .int .u32 0, .int .u32 0, .int .u32 0, .int .u32 0, .int .u32 0, .int .u32 0, .int .u32 0, .int .u32 0, .int .u32 0, .int .u32 0, .int .u32 0, .int .u32 0, .int .u32 0, .int .u32 0, .int .u32 0, .int .u32 0, .int .u32 0, .int .u32 0, .int .u32 0, .int .u32 0, .int .u32 0, .int .u32 0, .int .u32 0, .int .u32 0, .int .u32 0, .int .u32 0, .int .u32 0, .int .u32 0, .int .u32 0, .int .u32 0, .int .u32 0, .int .u32 0, .int .u32 0, .int .u32 0, .int .u32 0, .int .u32 0, .int .u32 0, .int .u32 0, .int .u32 0, .int .u32 0, .int .u32 0, .int .u32 0, .int .u32 0, .int .u32 0, .int .u32 0, .int .u32 0, .int .u32 0, .int .u32 0] 51)
            obtain ⟨W, hW⟩ : ∃ W, W = wr.heap.size := ⟨_, rfl⟩
            rw [← hW] at hWz hgkw hsW
            have HW := Lib.hid hW
            have hZ : gm < gh ∧ gh < gk ∧ gk < W ∧ B ≤ gm := ⟨HGG.1, HGG.2, hgkw, hgB⟩
            clear hW hr
            go_upto_block 6 with fail
            rw [← HW.out]
            generalize wr.alloc (.cells #[.int .u32 0, .int .u32 0, .int .u32 0, .int .u32 0, .int .u32 0, .int .u32 0, .int .u32 0, .int .u32 0, .int .u32 0, .int .u32 0, .int .u32 0, .int .u32 0, .int .u32 0, .int .u32 0, .int .u32 0, .int .u32 0, .int .u32 0, .int .u32 0, .int .u32 0, .int .u32 0, .int .u32 0, .int .u32 0, .int .u32 0, .int .u32 0, .int .u32 0, .int .u32 0, .int .u32 0, .int .u32 0, .int .u32 0, .int .u32 0, .int .u32 0, .int .u32 0, .int .u32 0, .int .u32 0, .int .u32 0, .int .u32 0, .int .u32 0, .int .u32 0, .int .u32 0, .int .u32 0, .int .u32 0, .int .u32 0, .int .u32 0, .int .u32 0, .int .u32 0, .int .u32 0, .int .u32 0, .int .u32 0, .int .u32 0, .int .u32 0, .int .u32 0, .int .u32 0, .int .u32 0, .int .u32 0, .int .u32 0, .int .u32 0, .int .u32 0, .int .u32 0, .int .u32 0, .int .u32 0, .int .u32 0, .int .u32 0, .int .u32 0, .int .u32 0] 51) = w0 at *
            refine rs_sched w _ B gm cm gh gk n at0 W m b s hatn hnQ HBG hZ hsW hWz hr1 _ _ _ _ _ _ _ _ _ _ _ _ _ _ _ _ _ _ _ _ _ _ _ _ _ _ _ _ _ _ _ _ _ _ _ _ _ _ _ _ _ _ _ _ _ _ _ _ _ _ _ _ _ _ _ _ _ _ _ _ _ _ _ _ _ _ _ _ _ _ _ _ _ _ _ _ _ _ _ _ _ _ _ _ _ _ _ _ _ _ _ _ _ _ _ _ _ _ _ _ _ _ _ _ _ _ _ _ _ _ _ _ _ _ _ _ _ _ _ _ _ _ _ _ _ _ _ _ _ _ _ _ _ _ _ _ _ _ _ _ _ _ _ _ _ _ _ _ _ _ _ _ _ _ _ _ _ _ _ _ _ _ _ _ _ _ _ _ _ _ _ _ _ _ _ _ _ _ _ _ _ _ _ _ _ _ _ _ _ _ _ _ _ _ _ _ _ _ _ _ _ _ _ _ _ _ _ _ _ _ _ _ _ _ _ _ _ _ _ _ _ _ _ _ _ _ _ _ _ _ _ _ _ _ _ _ _ _ _ _ _ _ _ _ _ _ _ _ _ _ _ _ _ _ _ _ _ _ _ _ _ _ _ _ _ ?rest3
            case rest3 =>
              intro _ wc hinv
              obtain ⟨u10, hinv⟩ := hinv
              obtain ⟨u11, hinv⟩ := hinv
              obtain ⟨u12, hinv⟩ := hinv
              obtain ⟨u58, hinv⟩ := hinv
              obtain ⟨u59, hinv⟩ := hinv
              obtain ⟨u60, hinv⟩ := hinv
              obtain ⟨u61, hinv⟩ := hinv
              obtain ⟨u62, hinv⟩ := hinv
              obtain ⟨u63, hinv⟩ := hinv
              obtain ⟨u64, hinv⟩ := hinv
              obtain ⟨u65, hinv⟩ := hinv
              obtain ⟨u66, hinv⟩ := hinv
              obtain ⟨u67, hinv⟩ := hinv
              obtain ⟨u68, hinv⟩ := hinv
              obtain ⟨u69, hinv⟩ := hinv
              obtain ⟨u70, hinv⟩ := hinv
              obtain ⟨u71, hinv⟩ := hinv
              obtain ⟨u72, hinv⟩ := hinv
              obtain ⟨u73, hinv⟩ := hinv
              obtain ⟨u74, hinv⟩ := hinv
              obtain ⟨u75, hinv⟩ := hinv
              obtain ⟨u76, hinv⟩ := hinv
              obtain ⟨u77, hinv⟩ := hinv
              obtain ⟨u78, hinv⟩ := hinv
              obtain ⟨u79, hinv⟩ := hinv
              obtain ⟨u80, hinv⟩ := hinv
              obtain ⟨u81, hinv⟩ := hinv
              obtain ⟨u82, hinv⟩ := hinv
              obtain ⟨u83, hinv⟩ := hinv
              obtain ⟨u84, hinv⟩ := hinv
              obtain ⟨u85, hinv⟩ := hinv
              obtain ⟨u86, hinv⟩ := hinv
              obtain ⟨u87, hinv⟩ := hinv
              obtain ⟨u88, hinv⟩ := hinv
              obtain ⟨u89, hinv⟩ := hinv
              obtain ⟨u90, hinv⟩ := hinv
              obtain ⟨u91, hinv⟩ := hinv
              obtain ⟨u92, hinv⟩ := hinv
              obtain ⟨u93, hinv⟩ := hinv
              obtain ⟨u94, hinv⟩ := hinv
              obtain ⟨u95, hinv⟩ := hinv
              obtain ⟨u96, hinv⟩ := hinv
              obtain ⟨u97, hinv⟩ := hinv
              obtain ⟨u98, hinv⟩ := hinv
              obtain ⟨u99, hinv⟩ := hinv
              obtain ⟨u100, hinv⟩ := hinv
              obtain ⟨u101, hinv⟩ := hinv
              obtain ⟨u102, hinv⟩ := hinv
              obtain ⟨u103, hinv⟩ := hinv
              obtain ⟨u104, hinv⟩ := hinv
              obtain ⟨u105, hinv⟩ := hinv
              obtain ⟨u106, hinv⟩ := hinv
              obtain ⟨u107, hinv⟩ := hinv
              obtain ⟨u108, hinv⟩ := hinv
              obtain ⟨u109, hinv⟩ := hinv
              obtain ⟨u110, hinv⟩ := hinv
              obtain ⟨u111, hinv⟩ := hinv
              obtain ⟨u112, hinv⟩ := hinv
              obtain ⟨u113, hinv⟩ := hinv
              obtain ⟨u114, hinv⟩ := hinv
              obtain ⟨u115, hinv⟩ := hinv
              obtain ⟨u116, hinv⟩ := hinv
              obtain ⟨u117, hinv⟩ := hinv
              obtain ⟨u118, hinv⟩ := hinv
              obtain ⟨u119, hinv⟩ := hinv
              obtain ⟨u120, hinv⟩ := hinv
              obtain ⟨u121, hinv⟩ := hinv
              obtain ⟨u122, hinv⟩ := hinv
              obtain ⟨u123, hinv⟩ := hinv
              obtain ⟨u124, hinv⟩ := hinv
              obtain ⟨u125, hinv⟩ := hinv
              obtain ⟨u126, hinv⟩ := hinv
              obtain ⟨u127, hinv⟩ := hinv
              obtain ⟨u128, hinv⟩ := hinv
              obtain ⟨u129, hinv⟩ := hinv
              obtain ⟨u130, hinv⟩ := hinv
              obtain ⟨u131, hinv⟩ := hinv
              obtain ⟨u132, hinv⟩ := hinv
              obtain ⟨u133, hinv⟩ := hinv
              obtain ⟨u134, hinv⟩ := hinv
              obtain ⟨u135, hinv⟩ := hinv
              obtain ⟨u136, hinv⟩ := hinv
              obtain ⟨u137, hinv⟩ := hinv
              obtain ⟨u138, hinv⟩ := hinv
              obtain ⟨u139, hinv⟩ := hinv
              obtain ⟨u140, hinv⟩ := hinv
              obtain ⟨u141, hinv⟩ := hinv
              obtain ⟨u142, hinv⟩ := hinv
              obtain ⟨u143, hinv⟩ := hinv
              obtain ⟨hcut, ha⟩ := hinv
              subst ha
              obtain ⟨hWd, hr⟩ := hcut
              clear hWz hr1
              have hl0 : s.list = [s.a, s.b, s.c, s.d, s.e, s.f, s.g, s.h] := rfl
              have c0 := SB.at0 hr.hh 0 s.a rfl; have c1 := SB.at0 hr.hh 1 s.b rfl; have c2 := SB.at0 hr.hh 2 s.c rfl; have c3 := SB.at0 hr.hh 3 s.d rfl
              have c4 := SB.at0 hr.hh 4 s.e rfl; have c5 := SB.at0 hr.hh 5 s.f rfl; have c6 := SB.at0 hr.hh 6 s.g rfl; have c7 := SB.at0 hr.hh 7 s.h rfl
              have hWlt := SB.lt hWd
              have hr2 := hr.step ((Below.refl _ _).alloc (Nat.le_refl _) (.cells #[.int .u32 (wd s.a), .int .u32 (wd s.b), .int .u32 (wd s.c), .int .u32 (wd s.d), .int .u32 (wd s.e), .int .u32 (wd s.f), .int .u32 (wd s.g), .int .u32 (wd s.h)] 50))
              have hW2 : Wd (wc.alloc (.cells #[.int .u32 (wd s.a), .int .u32 (wd s.b), .int .u32 (wd s.c), .int .u32 (wd s.d), .int .u32 (wd s.e), .int .u32 (wd s.f), .int .u32 (wd s.g), .int .u32 (wd s.h)] 50)) W (sched b 64) := SB.below hWd ((Below.refl _ _).alloc (Nat.le_refl _) (.cells #[.int .u32 (wd s.a), .int .u32 (wd s.b), .int .u32 (wd s.c), .int .u32 (wd s.d), .int .u32 (wd s.e), .int .u32 (wd s.f), .int .u32 (wd s.g), .int .u32 (wd s.h)] 50))
              have hG2 : SB (wc.alloc (.cells #[.int .u32 (wd s.a), .int .u32 (wd s.b), .int .u32 (wd s.c), .int .u32 (wd s.d), .int .u32 (wd s.e), .int .u32 (wd s.f), .int .u32 (wd s.g), .int .u32 (wd s.h)] 50)) wc.heap.size TA8 [] s.list [] := heap_alloc_new wc _
              obtain ⟨gs, hgs⟩ : ∃ gs, gs = wc.heap.size := ⟨_, rfl⟩
              rw [← hgs] at hG2 hWlt
              have HGS := Lib.hid hgs
              clear hgs hr hWd hl0
              go_upto_region 23 with fail
              clear c0 c1 c2 c3 c4 c5 c6 c7
              rw [← HGS.out]
              generalize wc.alloc (.cells #[.int .u32 (wd s.a), .int .u32 (wd s.b), .int .u32 (wd s.c), .int .u32 (wd s.d), .int .u32 (wd s.e), .int .u32 (wd s.f), .int .u32 (wd s.g), .int .u32 (wd s.h)] 50) = w2 at *
              have hZs : gm < gh ∧ gh < gk ∧ gk < gs ∧ B ≤ gm := ⟨hZ.1, hZ.2.1, by omega, hZ.2.2.2⟩
              have hWgs : W ≠ gs := by omega
              go_upto_block 8 with fail
              refine rs_rnds w _ B gm cm gh gk n W gs m b s hZs hWgs hG2 hW2 hr2 _ _ _ _ _ _ _ _ _ _ _ _ _ _ _ _ _ _ _ _ _ _ _ _ _ _ _ _ _ _ _ _ _ _ _ _ _ _ _ _ _ _ _ _ _ _ _ _ _ _ _ _ _ _ _ _ _ _ _ _ _ _ _ _ _ _ _ _ _ _ _ _ _ _ _ _ _ _ _ _ _ _ _ _ _ _ _ _ _ _ _ _ _ _ _ _ _ _ _ _ _ _ _ _ _ _ _ _ _ _ _ _ _ _ _ _ _ _ _ _ _ _ _ _ _ _ _ _ _ _ _ _ _ _ _ _ _ _ _ _ _ _ _ _ _ _ _ _ _ _ _ _ _ _ _ _ _ _ _ _ _ _ _ _ _ _ _ _ _ _ _ _ _ _ _ _ _ _ _ _ _ _ _ _ _ _ _ _ _ _ _ _ _ _ _ _ _ _ _ _ _ _ _ _ _ _ _ _ _ _ _ _ _ _ _ _ _ _ _ _ _ _ _ _ _ _ _ _ _ _ _ _ _ _ _ _ _ _ _ _ _ _ _ _ _ _ _ _ _ _ _ _ _ _ _ _ _ _ _ _ _ _ _ _ _ ?rest4
              case rest4 =>
                intro _ wc hinv
                obtain ⟨u14, hinv⟩ := hinv
                obtain ⟨u15, hinv⟩ := hinv
                obtain ⟨u16, hinv⟩ := hinv
                obtain ⟨u17, hinv⟩ := hinv
                obtain ⟨u18, hinv⟩ := hinv
                obtain ⟨u145, hinv⟩ := hinv
                obtain ⟨u146, hinv⟩ := hinv
                obtain ⟨u147, hinv⟩ := hinv
                obtain ⟨u148, hinv⟩ := hinv
                obtain ⟨u149, hinv⟩ := hinv
                obtain ⟨u150, hinv⟩ := hinv
                obtain ⟨u151, hinv⟩ := hinv
                obtain ⟨u152, hinv⟩ := hinv
                obtain ⟨u153, hinv⟩ := hinv
                obtain ⟨u154, hinv⟩ := hinv
                obtain ⟨u155, hinv⟩ := hinv
                obtain ⟨u156, hinv⟩ := hinv
                obtain ⟨u157, hinv⟩ := hinv
                obtain ⟨u158, hinv⟩ := hinv
                obtain ⟨u159, hinv⟩ := hinv
                obtain ⟨u160, hinv⟩ := hinv
                obtain ⟨u161, hinv⟩ := hinv
                obtain ⟨u162, hinv⟩ := hinv
                obtain ⟨u163, hinv⟩ := hinv
                obtain ⟨u164, hinv⟩ := hinv
                obtain ⟨u165, hinv⟩ := hinv
                obtain ⟨u166, hinv⟩ := hinv
                obtain ⟨u167, hinv⟩ := hinv
                obtain ⟨u168, hinv⟩ := hinv
                obtain ⟨u169, hinv⟩ := hinv
                obtain ⟨u170, hinv⟩ := hinv
                obtain ⟨u171, hinv⟩ := hinv
                obtain ⟨u172, hinv⟩ := hinv
                obtain ⟨u173, hinv⟩ := hinv
                obtain ⟨u174, hinv⟩ := hinv
                obtain ⟨u175, hinv⟩ := hinv
                obtain ⟨u176, hinv⟩ := hinv
                obtain ⟨u177, hinv⟩ := hinv
                obtain ⟨u178, hinv⟩ := hinv
                obtain ⟨u179, hinv⟩ := hinv
                obtain ⟨u180, hinv⟩ := hinv
                obtain ⟨u181, hinv⟩ := hinv
                obtain ⟨u182, hinv⟩ := hinv
                obtain ⟨u183, hinv⟩ := hinv
                obtain ⟨u184, hinv⟩ := hinv
                obtain ⟨u185, hinv⟩ := hinv
                obtain ⟨u186, hinv⟩ := hinv
                obtain ⟨u187, hinv⟩ := hinv
                obtain ⟨u188, hinv⟩ := hinv
                obtain ⟨u189, hinv⟩ := hinv
                obtain ⟨u190, hinv⟩ := hinv
                obtain ⟨u191, hinv⟩ := hinv
                obtain ⟨u192, hinv⟩ := hinv
                obtain ⟨u193, hinv⟩ := hinv
                obtain ⟨u194, hinv⟩ := hinv
                obtain ⟨u195, hinv⟩ := hinv
                obtain ⟨u196, hinv⟩ := hinv
                obtain ⟨u197, hinv⟩ := hinv
                obtain ⟨u198, hinv⟩ := hinv
                obtain ⟨u199, hinv⟩ := hinv
                obtain ⟨u200, hinv⟩ := hinv
                obtain ⟨u201, hinv⟩ := hinv
                obtain ⟨u202, hinv⟩ := hinv
                obtain ⟨u203, hinv⟩ := hinv
                obtain ⟨u204, hinv⟩ := hinv
                obtain ⟨u205, hinv⟩ := hinv
                obtain ⟨u206, hinv⟩ := hinv
                obtain ⟨u207, hinv⟩ := hinv
                obtain ⟨u208, hinv⟩ := hinv
                obtain ⟨u209, hinv⟩ := hinv
                obtain ⟨u210, hinv⟩ := hinv
                obtain ⟨u211, hinv⟩ := hinv
                obtain ⟨u212, hinv⟩ := hinv
                obtain ⟨u213, hinv⟩ := hinv
                obtain ⟨u214, hinv⟩ := hinv
                obtain ⟨u215, hinv⟩ := hinv
                obtain ⟨u216, hinv⟩ := hinv
                obtain ⟨u217, hinv⟩ := hinv
                obtain ⟨u218, hinv⟩ := hinv
                obtain ⟨u219, hinv⟩ := hinv
                obtain ⟨u220, hinv⟩ := hinv
                obtain ⟨u221, hinv⟩ := hinv
                obtain ⟨u222, hinv⟩ := hinv
                obtain ⟨u223, hinv⟩ := hinv
                obtain ⟨u224, hinv⟩ := hinv
                obtain ⟨u225, hinv⟩ := hinv
                obtain ⟨u226, hinv⟩ := hinv
                obtain ⟨hcut, ha⟩ := hinv
                subst ha
                obtain ⟨hS, hRk⟩ := hcut
                clear hG2 hW2 hr2
                have hcs : comp s b = s.add (rnds b s 64) := rfl
                generalize rnds b s 64 = r at *
                have HCS := Lib.hid hcs
                clear hcs
                go_upto_block 10 with fail
                go_wp2_with fail
                go_loopw [19] (fun i wr => ∃ k : Nat, k ≤ 8 ∧ i = .int .i64 k ∧ SB wr gs TA8 [] r.list [] ∧ RInv w B gm cm gh gk m n (mixL s r k) wr) (fun i _ => 8 - (intOf i).toNat)
                case atStart => exact ⟨0, by omega, rfl, hS, hRk⟩
                case round =>
                  obtain ⟨k, hk, rfl, hS2, hR2⟩ := hrel
                  clear hS hRk
                  by_cases hlt8 : k < 8
                  · obtain ⟨x, y, hx, hy, hset⟩ := mixL_at s r k hlt8
                    have cx := SB.at0 hR2.hh k x hx
                    have cy := SB.at0 hS2 k y hy
                    have fx := SB.frozen hR2.hh k
                    have ek1 : (0 : Int) ≤ (k : Int) := by omega
                    have ek2 : (k : Int) < 8 := by omega
                    have hR3 := hR2.seth k (by rw [mixL_length _ _ _ (by omega)]; exact hlt8) (x + y) hset ⟨hZ.1, hZ.2.1, hZ.2.2.2⟩
                    have hS3 := SB.far (Z := gh) (k := k) (u := .int .u32 (wd (x + y))) hS2 (by omega)
                    clear hx hy hset hS2 hR2
                    go_upto_region 33 with fail
                    refine wp_tailb 9 (by kernel_rfl) (by kernel_rfl) rfl ?_
                    simp only [List.take_succ_cons, List.take_zero, List.drop_succ_cons, List.drop_zero, List.map_cons, List.map_nil, bare]
                    repeat still_step
                    refine wpStill_nil ?_
                    go_wp2_with fail
                    go_roundw
                    case rel => exact ⟨k + 1, by omega, by go_num, SB.drew hS3, hR3.step (Below.refl _ _).drew⟩
                    case measure => simp [intOf]; omega
                  · obtain rfl : k = 8 := by omega
                    rw [mixL_full, ← HCS.out, ← HNX.out] at hR2
                    have hkl := SB.lt hR2.kk
                    go_wp2_with fail
                    go_roundw
                    case rel => exact ⟨q + 1, at0 + 64, by omega, by have := HAT.out; omega, by go_num, hkl, hR2⟩
                    case measure => simp [intOf]; omega
          · obtain rfl : q = Q := by omega
            have hat2 : ¬ ((at0 : Int) < (n : Int)) := by have := HAT.out; have := HN.out; omega
            go_wp2_with fail
            go_meet
            exact ⟨rfl, hr⟩
      case rest =>
        obtain ⟨rfl, hR2⟩ := hcut
        clear hR
        have hsh := HSHA.out
        generalize blocks Q begunS m = u at *
        have HSH := Lib.hid hsh
        clear hsh HSHA
        obtain ⟨hEz, _, hHz, _⟩ := hR2
        go_upto_block 12 with fail
        go_wp2_with fail
        go_loopw [20, 21] (fun v i wr => ∃ k : Nat, k ≤ 8 ∧ i = .int .i64 k ∧ Ext B w wr ∧ SB wr gh TA8 [] u.list [] ∧ Own wr B v (u.list.map wbytes |>.take k).flatten ∧ v.ownBlock ≠ some gh) (fun _ i _ => 8 - (intOf i).toNat)
        case atStart => exact ⟨0, by omega, rfl, hEz, hHz, Own.nil _ _, by simp [Value.ownBlock]⟩
        case round =>
          obtain ⟨k, hk, rfl, hE3, hH3, hO3, hv3⟩ := hrel
          clear hEz hHz
          by_cases hlt : k < 8
          · obtain ⟨x, hx, hol, HL⟩ : ∃ x, u.list[k]? = some x ∧ ((u.list.map wbytes).take k).flatten.length ≤ 2000000 ∧ Hid (((u.list.map wbytes).take k).flatten ++ wbytes x = ((u.list.map wbytes).take (k + 1)).flatten) := by
              rcases (show k = 0 ∨ k = 1 ∨ k = 2 ∨ k = 3 ∨ k = 4 ∨ k = 5 ∨ k = 6 ∨ k = 7 by omega) with rfl | rfl | rfl | rfl | rfl | rfl | rfl | rfl
              · exact ⟨u.a, rfl, by show 0 ≤ 2000000; omega, Lib.hid rfl⟩
              · exact ⟨u.b, rfl, by show 4 ≤ 2000000; omega, Lib.hid rfl⟩
              · exact ⟨u.c, rfl, by show 8 ≤ 2000000; omega, Lib.hid rfl⟩
              · exact ⟨u.d, rfl, by show 12 ≤ 2000000; omega, Lib.hid rfl⟩
              · exact ⟨u.e, rfl, by show 16 ≤ 2000000; omega, Lib.hid rfl⟩
              · exact ⟨u.f, rfl, by show 20 ≤ 2000000; omega, Lib.hid rfl⟩
              · exact ⟨u.g, rfl, by show 24 ≤ 2000000; omega, Lib.hid rfl⟩
              · exact ⟨u.h, rfl, by show 28 ≤ 2000000; omega, Lib.hid rfl⟩
            have cx := SB.at0 hH3 k x hx
            have ek1 : (0 : Int) ≤ (k : Int) := by omega
            have ek2 : (k : Int) < 8 := by omega
            generalize ((u.list.map wbytes).take k).flatten = L at *
            have hE4 := hE3.drew
            have hO4 : Own wr.drew B u20 L := hO3.below (Below.refl _ _).drew
            have HH3 := Lib.hid hH3
            clear hx hH3
            go_upto_region 38 with fail
            have hol2 : L.length + 4 ≤ 140737488355328 := by omega
            have HFAR : Hid (∀ W w2 : World, W.cell? ⟨gh, k, none⟩ = some (.int .u32 (wd x)) → W.grownBy w2 u20.ownBlock → w2.cell? ⟨gh, k, none⟩ = some (.int .u32 (wd x))) :=
              Lib.hid fun W w2 hc h2 => h2.cell hc (Ne.symm hv3)
            have HBW : Hid (∀ W : World, Bs (W.alloc (.cells #[.int .u8 (IntKind.u8.wrap (wd x / 16777216)), .int .u8 (IntKind.u8.wrap (wd x / 65536)), .int .u8 (IntKind.u8.wrap (wd x / 256)), .int .u8 (IntKind.u8.wrap (wd x))] TB)) (some ⟨W.heap.size, 0, none⟩) 4 4 (wbytes x)) :=
              Lib.hid fun W => by
                rw [IntKind.wrap_u8', IntKind.wrap_u8', IntKind.wrap_u8', IntKind.wrap_u8']
                exact Bs.word W x
            have hBs : B ≤ (wr.drew.alloc (.cells #[.int .u8 (IntKind.u8.wrap (wd x / 16777216)), .int .u8 (IntKind.u8.wrap (wd x / 65536)), .int .u8 (IntKind.u8.wrap (wd x / 256)), .int .u8 (IntKind.u8.wrap (wd x))] TB)).heap.size := by have := hE3.2; simp; omega
            go_region_held3 (fun w' => w'.cell? ⟨gh, k, none⟩ = some (.int .u32 (wd x))) (first | go_keep | assumption) ((refine step_append_at rfl (.tmp 244) (.tmp 264) rfl B u20 L ?_ (hO4.alloc _) _ 4 _ (wbytes x) ?_ (HBW.out _) hol2 hBs (fun v' w1 h1 h2 h3 => ?_); (rfl); (rfl); have k1 := HFAR.out _ _ (by assumption) h2))
            rw [HL.out] at h1
            have hgl := SB.lt HH3.out
            have hE5 := (hE4.alloc (.cells #[.int .u8 (IntKind.u8.wrap (wd x / 16777216)), .int .u8 (IntKind.u8.wrap (wd x / 65536)), .int .u8 (IntKind.u8.wrap (wd x / 256)), .int .u8 (IntKind.u8.wrap (wd x))] TB)).grown h2 (fun q hq => (World.ownsRow.lt hO4 q hq).1)
            have hS5 : SB w1 gh TA8 [] u.list [] := (h2.block gh (by simp; omega) (Ne.symm hv3)).trans (SB.below (SB.drew HH3.out) ((Below.refl _ _).alloc (Nat.le_refl _) _))
            have hv5 : v'.ownBlock ≠ some gh := by
              rcases h3 with h3 | h3
              · rw [h3]; exact hv3
              · rw [h3]; intro e; injection e with e; simp at e; omega
            clear h2 h3 k1 hE3 hE4 hO3 hO4 hBs HBW HFAR cx
            go_wp2_with fail
            go_roundw
            case rel => exact ⟨k + 1, by omega, by go_num, hE5, hS5, h1, hv5⟩
            case measure => simp [intOf]; omega
          · obtain rfl : k = 8 := by omega
            rw [show ((u.list.map wbytes).take 8).flatten = u.bytes from rfl, ← HSH.out] at hO3
            go_wp2_with fail
            go_ret
            exact ⟨_, rfl, hO3, hE3.1⟩
end Go.Proofs.Ytdglhonogopciaa
