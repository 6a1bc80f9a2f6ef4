/- Contracts of permafrostref16.Right, Size, Encode. -/
import Derived.Test.YtmjlndfkddacbaaRecordNo
import Derived.Test.YtmjlndfkddacbaaRef4R
import Derived.Test.YtmjlndfkddacbaaCrcRef
import Derived.Deep.RegionHeld3
import Derived.Deep.DeepCutAuto
namespace Go.Proofs.Ytmjlndfkddacbaa
open Go.RowKit

set_option maxRecDepth 100000 in
theorem rright_any (kind : Int) (seq : Nat) (a : Option Addr) (len cap : Nat) (w : World) :
    Calls Try.prog 44 #[.agg #[.int .i64 kind, .int .u64 (seq : Int), .slice a len cap]] w fun e w' => e = .returned (.bool (decide (RecOk kind seq len))) ∧ Below w.heap.size w w' := by
  generalize hok : decide (RecOk kind seq len) = ok
  have HO := Lib.hid hok
  clear hok
  go_enter Try.func44, Try.ntmps44
  by_cases h1 : kind = 1
  · by_cases h2 : (len : Int) ≤ 900
    · go_wp2
      all_goals go_ret
      all_goals refine ⟨ret_bool ?_, ((Ext.refl w).alloc _).1⟩
      all_goals rw [← HO.out, Bool.eq_iff_iff]
      all_goals rw [decide_eq_true_iff (p := RecOk _ _ _)]
      all_goals simp only [RecOk]
      all_goals (first | omega | (simp; omega))
    · go_wp2
      all_goals go_ret
      all_goals refine ⟨ret_bool ?_, ((Ext.refl w).alloc _).1⟩
      all_goals rw [← HO.out, Bool.eq_iff_iff]
      all_goals rw [decide_eq_true_iff (p := RecOk _ _ _)]
      all_goals simp only [RecOk]
      all_goals (first | omega | (simp; omega))
  · have hk1 : (kind == 1) = false := by rw [beq_eq_false_iff_ne]; exact h1
    by_cases h3 : kind = 2
    · by_cases h4 : len = 0
      · go_wp2
        all_goals go_ret
        all_goals refine ⟨ret_bool ?_, ((Ext.refl w).alloc _).1⟩
        all_goals rw [← HO.out, Bool.eq_iff_iff]
        all_goals rw [decide_eq_true_iff (p := RecOk _ _ _)]
        all_goals simp only [RecOk]
        all_goals (first | omega | (simp; omega))
      · have hl0 : ((len : Int) == 0) = false := by rw [beq_eq_false_iff_ne]; omega
        go_wp2
        all_goals go_ret
        all_goals refine ⟨ret_bool ?_, ((Ext.refl w).alloc _).1⟩
        all_goals rw [← HO.out, Bool.eq_iff_iff]
        all_goals rw [decide_eq_true_iff (p := RecOk _ _ _)]
        all_goals simp only [RecOk]
        all_goals (first | omega | (simp; omega))
    · have hk2 : (kind == 2) = false := by rw [beq_eq_false_iff_ne]; exact h3
      go_wp2
      all_goals go_ret
      all_goals refine ⟨ret_bool ?_, ((Ext.refl w).alloc _).1⟩
      all_goals rw [← HO.out, Bool.eq_iff_iff]
      all_goals rw [decide_eq_true_iff (p := RecOk _ _ _)]
      all_goals simp only [RecOk]
      all_goals (first | omega | (simp; omega))

set_option maxRecDepth 100000 in
theorem rsize_any (kind : Int) (seq : Nat) (a : Option Addr) (len cap : Nat) (w : World) :
    Calls Try.prog 46 #[.agg #[.int .i64 kind, .int .u64 (seq : Int), .slice a len cap]] w fun e w' => e = .returned (.int .i64 (if RecOk kind seq len then 15 + (len : Int) else 0)) ∧ Below w.heap.size w w' := by
  have HR := Lib.hid (rright_any kind seq a len cap (w.alloc (.cells #[.int .i64 kind, .int .u64 (seq : Int), .slice a len cap] 29)))
  by_cases hok : RecOk kind seq len
  · rw [decide_eq_true hok] at HR
    rw [if_pos hok]
    have hl := hok.2.1
    clear hok
    go_enter Try.func46, Try.ntmps46
    go_wp2_with fail
    refine HR.out.mono ?_
    rintro e w1 ⟨rfl, hb⟩
    have c2 : w1.cell? ⟨w.heap.size, 2, none⟩ = some (.slice a len cap) := cell_new_below hb 2
    have hE := ((Ext.refl w).alloc (.cells #[.int .i64 kind, .int .u64 (seq : Int), .slice a len cap] 29)).step hb
    go_wp2_with fail
    go_ret
    exact ⟨ret_int (by omega), hE.1⟩
  · rw [decide_eq_false hok] at HR
    rw [if_neg hok]
    clear hok
    go_enter Try.func46, Try.ntmps46
    go_wp2_with fail
    refine HR.out.mono ?_
    rintro e w1 ⟨rfl, hb⟩
    go_wp2_with fail
    go_ret
    exact ⟨rfl, (((Ext.refl w).alloc _).step hb).1⟩

/-- what ref16.Encode writes, of whatever record -/
def rHead (kind : Int) (seq : Nat) (body : List UInt8) : List UInt8 := [UInt8.ofNat (kind % 256).toNat] ++ be seq 8 ++ lenBytes body
def rBytes (kind : Int) (seq : Nat) (body : List UInt8) : List UInt8 := rHead kind seq body ++ be (crcMore 0 (rHead kind seq body)) 4
theorem rHead_eq (kind seq : Nat) (body : List UInt8) : rHead (kind : Int) seq body = recHead kind seq body := by
  have e : be kind 1 = [UInt8.ofNat ((kind : Int) % 256).toNat] := by
    simp only [be, Nat.pow_zero, Nat.div_one]
    congr 1
    exact UInt8.toNat_inj.1 (by simp [UInt8.toNat_ofNat']; omega)
  simp [rHead, recHead, e]
theorem rBytes_eq (kind seq : Nat) (body : List UInt8) : rBytes (kind : Int) seq body = recBytes kind seq body := by simp only [rBytes, recBytes, rHead_eq]
theorem lenBytes_le (ys : List UInt8) : (lenBytes ys).length ≤ ys.length + 2 := by simp [lenBytes, be_length]; omega
set_option maxRecDepth 100000 in
theorem renc_any (kind : Int) (seq : Nat) (a : Option Addr) (len cap : Nat) (ys : List UInt8) (w : World) (h : Bs w a len cap ys) (hl : len ≤ 100000) :
    Calls Try.prog 12 #[.agg #[.int .i64 kind, .int .u64 (seq : Int), .slice a len cap]] w fun e w' => ∃ v, e = .returned v ∧ Own w' w.heap.size v (rBytes kind seq ys) ∧ Below w.heap.size w w' := by
  have hyl := h.1
  have c0 := cell_new w #[.int .i64 kind, .int .u64 (seq : Int), .slice a len cap] 29 0
  have c1 := cell_new w #[.int .i64 kind, .int .u64 (seq : Int), .slice a len cap] 29 1
  have c2 := cell_new w #[.int .i64 kind, .int .u64 (seq : Int), .slice a len cap] 29 2
  simp only [List.getElem?_toArray, List.getElem?_cons_zero, List.getElem?_cons_succ] at c0 c1 c2
  have hlt := size_alloc w (.cells #[.int .i64 kind, .int .u64 (seq : Int), .slice a len cap] 29)
  have hE := (Ext.refl w).alloc (.cells #[.int .i64 kind, .int .u64 (seq : Int), .slice a len cap] 29)
  have hB := h.alloc (.cells #[.int .i64 kind, .int .u64 (seq : Int), .slice a len cap] 29)
  obtain ⟨H, hH⟩ : ∃ H, H = w.heap.size := ⟨_, rfl⟩
  rw [← hH] at c0 c1 c2 hlt hE ⊢
  have HH := Lib.hid hH
  clear hH h
  have hLB := lenBytes_le ys
  go_enter Try.func12, Try.ntmps12
  go_upto_region 1 with fail
  rw [← HH.out]
  generalize w.alloc (.cells #[.int .i64 kind, .int .u64 (seq : Int), .slice a len cap] 29) = w0 at *
  go_cut [3] (fun v wx => Own wx w0.heap.size v (rHead kind seq ys) ∧ Ext w0.heap.size w0 wx)
  case first =>
    have hE0 := (Ext.refl w0).drew
    have hB0 := hB.drew
    go_region_held3 (fun w' => w'.cell? ⟨H, 0, none⟩ = some (.int .i64 kind) ∧ w'.cell? ⟨H, 1, none⟩ = some (.int .u64 (seq : Int)) ∧ w'.cell? ⟨H, 2, none⟩ = some (.slice a len cap)) (go_keep) ((first
      | (go_at_call 41; refine (ref_byte_int none 0 0 [] kind _ (Bs.nil _) (by unfold big; decide)).mono ?_; rintro e w2 ⟨v2, rfl, ho2, hb2⟩; obtain ⟨a2, k2, rfl, hB2⟩ := ho2.bsn (n := 1) rfl; have hE2 := hE0.step hb2; have g0 := hE2.cel hlt c0; have g1 := hE2.cel hlt c1; have g2 := hE2.cel hlt c2)
      | (go_at_call 40; refine (ref_long _ _ _ _ seq _ hB2 (by unfold big; decide)).mono ?_; rintro e w3 ⟨v3, rfl, ho3, hb3⟩; obtain ⟨a3, k3, rfl, hB3⟩ := ho3.bsn (n := 9) (by simp [be_length]); have hE3 := hE2.step hb3; have g0 := hE3.cel hlt c0; have g1 := hE3.cel hlt c1; have g2 := hE3.cel hlt c2)
      | (go_at_call 39; refine (ref_bytes _ _ _ _ _ _ _ _ _ hB3 (hB.below hE3.1) (by unfold big; decide)).mono ?_; rintro e w4 ⟨v4, rfl, ho4, hb4⟩; have hE4 := hE3.step hb4; have g0 := hE4.cel hlt c0; have g1 := hE4.cel hlt c1; have g2 := hE4.cel hlt c2)))
    all_goals (go_wp2_with fail; go_meet; exact ⟨by simpa [rHead] using ho4.base hE3.2, hE4⟩)
  case rest =>
    obtain ⟨ho, hEc⟩ := hcut
    have hXl : (rHead kind seq ys).length ≤ 200000 := by simp [rHead, be_length]; omega
    have HX := Lib.hid (show rBytes kind seq ys = rHead kind seq ys ++ be (crcMore 0 (rHead kind seq ys)) 4 from rfl)
    generalize rHead kind seq ys = X at *
    obtain ⟨a5, k5, rfl, hB5⟩ := ho.bs
    have hcl := crcMore_lt 0 X
    go_wp2_with fail
    refine (refsum_any _ _ _ X _ hB5).mono ?_
    rintro e w5 ⟨rfl, rfl⟩
    generalize crcMore 0 X = c at *
    go_wp2_with fail
    refine (ref_sum4 _ _ _ X c _ hB5 (by unfold big; omega) (by omega)).mono ?_
    rintro e w6 ⟨v6, rfl, ho6, hb6⟩
    go_wp2_with fail
    go_ret
    exact ⟨_, rfl, by rw [HX.out]; exact ho6.base (by have := hEc.2; have := hE.2; omega), (hE.to (hEc.1.mono hE.2)).to (hb6.mono (by have := hEc.2; have := hE.2; omega)) |>.1⟩
end Go.Proofs.Ytmjlndfkddacbaa
