/- Contracts of permafrostref10. -/
import Derived.Test.YtphjdlckoddgmaaNode
import Derived.Test.YtphjdlckoddgmaaRef4R
import Derived.Test.YtphjdlckoddgmaaTools
import Derived.Deep.RegionHeld3
import Derived.Deep.DeepCutAuto
namespace Go.Proofs.Ytphjdlckoddgmaa
open Go.RowKit

theorem ref_short_int (a : Option Addr) (len cap : Nat) (xs : List UInt8) (n : Int) (w : World) (h : Bs w a len cap xs) (hl : len + 8 ≤ big) :
    Calls Try.prog 35 #[.slice a len cap, .int .i64 n] w fun e w' => ∃ v, e = .returned v ∧ Own w' w.heap.size v (xs ++ [UInt8.ofNat (n / 256 % 256).toNat, UInt8.ofNat (n % 256).toNat]) ∧ Below w.heap.size w w' := by
  have hxl := h.1
  have hO := Own.empty w
  go_enter Try.func35, Try.ntmps35
  go_wp2_with (at_builtin; refine wpList_append_bytes rfl _ _ rfl (w.heap.size) _ [] rfl hO a len cap xs rfl (h.alloc _) ?h3 (by simp) ?hk)
  case h3 => unfold big at hl; simp; omega
  intro v1 w1 hown hg _
  have hE := ((Ext.refl w).alloc (.cells #[] TB)).grown hg hO.blk
  clear hg h hO
  have hC := Lib.hid (show (#[.int .u8 (n / 256 % 256), .int .u8 (n % 256)] : Array Value).toList.take 2 = [UInt8.ofNat (n / 256 % 256).toNat, UInt8.ofNat (n % 256).toNat].map bv by simp [bv, UInt8.toNat_ofNat']; omega)
  go_wp2_with (at_builtin; refine wpList_append_bytes rfl _ _ rfl (w.heap.size) v1 xs rfl (hown.alloc _) _ 2 2 [UInt8.ofNat (n / 256 % 256).toNat, UInt8.ofNat (n % 256).toNat] rfl (Bs.newRow _ _ _ _ _ _ _ rfl (Nat.le_refl _) ?g1 ?g2) ?g3 ?g4 ?gk)
  case g3 => unfold big at hl; omega
  case g1 => simp [maxLen]
  case g2 => have := hC.out; simpa using this
  case g4 => have := hE.2; simp; omega
  intro v2 w2 hown2 hg2 _
  have hE2 := (hE.alloc (.cells #[.int .u8 (n / 256 % 256), .int .u8 (n % 256)] TB)).grown hg2 hown.blk
  clear hown hg2 hE
  go_wp2_with fail
  go_ret
  exact ⟨_, rfl, hown2, hE2.1⟩

theorem ref_flag (a : Option Addr) (len cap : Nat) (xs : List UInt8) (b : Bool) (w : World) (h : Bs w a len cap xs) (hl : len + 8 ≤ big) :
    Calls Try.prog 56 #[.slice a len cap, .bool b] w fun e w' => ∃ v, e = .returned v ∧ Own w' w.heap.size v (xs ++ [fb b]) ∧ Below w.heap.size w w' := by
  cases b with
  | true =>
    have HC := Lib.hid (ref_byte a len cap xs 1 w h hl)
    go_enter Try.func56, Try.ntmps56
    go_wp2_with fail
    refine HC.out.mono ?_
    rintro e w1 ⟨v, rfl, ho, hb⟩
    go_wp2_with fail
    go_ret
    exact ⟨_, rfl, by simpa [be, fb] using ho, hb⟩
  | false =>
    have HC := Lib.hid (ref_byte a len cap xs 0 w h hl)
    go_enter Try.func56, Try.ntmps56
    go_wp2_with fail
    refine HC.out.mono ?_
    rintro e w1 ⟨v, rfl, ho, hb⟩
    go_wp2_with fail
    go_ret
    exact ⟨_, rfl, by simpa [be, fb] using ho, hb⟩

set_option maxHeartbeats 1000000 in
set_option maxRecDepth 100000 in
theorem rnright_any (n : Nd) (w : World) : Calls Try.prog 55 #[.agg n.cells] w fun e w' => e = .returned (.bool (decide n.Ok)) ∧ Below w.heap.size w w' := by
  obtain ⟨id, kind, links, size, til, closed⟩ := n
  generalize hok : decide (Nd.Ok ⟨id, kind, links, size, til, closed⟩) = ok
  have HO := Lib.hid hok
  clear hok
  unfold Nd.cells
  simp only
  go_enter Try.func55, Try.ntmps55
  by_cases hr : 0 ≤ id ∧ id ≤ 65535 ∧ 0 ≤ links ∧ links ≤ 65535 ∧ til ≤ 1099511627776 ∧ 0 ≤ size ∧ size ≤ 4096
  · obtain ⟨h1, h2, h3, h4, h5, h6, h7⟩ := hr
    have g1 : ¬ id < 0 := by omega
    have g2 : ¬ 65535 < id := by omega
    have g3 : ¬ links < 0 := by omega
    have g4 : ¬ 65535 < links := by omega
    have g5 : ¬ (1099511627776 : Int) < (til : Int) := by omega
    have g6 : ¬ size < 0 := by omega
    have g7 : ¬ 4096 < size := by omega
    by_cases k1 : kind = 1
    · go_wp2_with fail
      go_ret
      refine ⟨ret_bool ?_, ((Ext.refl w).alloc _).1⟩
      rw [← HO.out, eq_comm, decide_eq_true_iff]
      exact ⟨h1, h2, h3, h4, .inl ⟨k1, h6, h7, h5⟩⟩
    · have k1' : (kind == 1) = false := by rw [beq_eq_false_iff_ne]; exact k1
      by_cases k2 : kind = 2
      · by_cases k3 : size = 0
        · by_cases k4 : til = 0
          · subst k4 k3 k2
            go_wp2_with fail
            go_ret
            refine ⟨ret_bool ?_, ((Ext.refl w).alloc _).1⟩
            rw [← HO.out, Bool.eq_iff_iff, decide_eq_true_iff]
            simp only [Nd.Ok]
            refine ⟨fun hc => ⟨h1, h2, h3, h4, .inr ⟨trivial, trivial, trivial, hc⟩⟩, fun hc => ?_⟩
            rcases hc.2.2.2.2 with hc | hc
            · exact absurd hc.1 (by omega)
            · exact hc.2.2.2
          · have k4' : ((til : Int) == 0) = false := by rw [beq_eq_false_iff_ne]; omega
            subst k3 k2
            go_wp2_with fail
            go_ret
            refine ⟨ret_bool ?_, ((Ext.refl w).alloc _).1⟩
            rw [← HO.out, eq_comm, decide_eq_false_iff_not]
            simp [Nd.Ok]
            omega
        · have k3' : (size == 0) = false := by rw [beq_eq_false_iff_ne]; exact k3
          subst k2
          go_wp2_with fail
          go_ret
          refine ⟨ret_bool ?_, ((Ext.refl w).alloc _).1⟩
          rw [← HO.out, eq_comm, decide_eq_false_iff_not]
          simp [Nd.Ok]
          omega
      · have k2' : (kind == 2) = false := by rw [beq_eq_false_iff_ne]; exact k2
        go_wp2_with fail
        go_ret
        refine ⟨ret_bool ?_, ((Ext.refl w).alloc _).1⟩
        rw [← HO.out, eq_comm, decide_eq_false_iff_not]
        simp [Nd.Ok]
        omega
  · have hno : ok = false := by
      rw [← HO.out, decide_eq_false_iff_not]
      simp only [Nd.Ok]
      omega
    subst hno
    by_cases h1 : id < 0
    · go_wp2_with fail
      go_ret
      exact ⟨rfl, ((Ext.refl w).alloc _).1⟩
    by_cases h2 : 65535 < id
    · go_wp2_with fail
      go_ret
      exact ⟨rfl, ((Ext.refl w).alloc _).1⟩
    by_cases h3 : links < 0
    · go_wp2_with fail
      go_ret
      exact ⟨rfl, ((Ext.refl w).alloc _).1⟩
    by_cases h4 : 65535 < links
    · go_wp2_with fail
      go_ret
      exact ⟨rfl, ((Ext.refl w).alloc _).1⟩
    by_cases h5 : (1099511627776 : Int) < (til : Int)
    · go_wp2_with fail
      go_ret
      exact ⟨rfl, ((Ext.refl w).alloc _).1⟩
    by_cases h6 : size < 0
    · go_wp2_with fail
      go_ret
      exact ⟨rfl, ((Ext.refl w).alloc _).1⟩
    have h7 : 4096 < size := by omega
    go_wp2_with fail
    go_ret
    exact ⟨rfl, ((Ext.refl w).alloc _).1⟩

/-- what ref10.Encode writes, of whatever node -/
def shI (n : Int) : List UInt8 := [UInt8.ofNat (n / 256 % 256).toNat, UInt8.ofNat (n % 256).toNat]
def Nd.rbytes (n : Nd) : List UInt8 := shI n.id ++ [UInt8.ofNat (n.kind % 256).toNat] ++ shI n.links ++ shI n.size ++ be n.til 8 ++ [fb n.closed]
theorem shI_nat (n : Int) (h : 0 ≤ n) : shI n = be n.toNat 2 := by
  obtain ⟨m, rfl⟩ := Int.eq_ofNat_of_zero_le h
  simp only [shI, be, Int.toNat_natCast, Nat.pow_zero, Nat.div_one, Nat.pow_one]
  congr 1
  · exact UInt8.toNat_inj.1 (by simp [UInt8.toNat_ofNat']; omega)
  · congr 1
    exact UInt8.toNat_inj.1 (by simp [UInt8.toNat_ofNat']; omega)
theorem Nd.rbytes_eq (n : Nd) (h : n.Ok) : n.rbytes = n.bytes := by
  have hk : 0 ≤ n.kind ∧ n.kind ≤ 2 ∧ 0 ≤ n.size := by rcases h.2.2.2.2 with h | h <;> omega
  have e : [UInt8.ofNat (n.kind % 256).toNat] = be n.kind.toNat 1 := by
    simp only [be, Nat.pow_zero, Nat.div_one]
    congr 1
    exact UInt8.toNat_inj.1 (by simp [UInt8.toNat_ofNat']; omega)
  unfold Nd.rbytes Nd.bytes
  rw [shI_nat _ h.1, shI_nat _ h.2.2.1, shI_nat _ hk.2.2, e]
  simp
theorem Nd.rbytes_len (n : Nd) : n.rbytes.length = 16 := by simp [Nd.rbytes, shI, be_length]

set_option maxHeartbeats 1000000 in
set_option maxRecDepth 100000 in
theorem rnenc_any (n : Nd) (w : World) :
    Calls Try.prog 57 #[.agg n.cells] w fun e w' => ∃ v, e = .returned v ∧ Own w' w.heap.size v n.rbytes ∧ Below w.heap.size w w' := by
  obtain ⟨id, kind, links, size, til, closed⟩ := n
  unfold Nd.cells Nd.rbytes
  simp only
  have C := cell_new w #[.int .i64 id, .int .i64 kind, .int .i64 links, .int .i64 size, .int .u64 (til : Int), .bool closed] 43
  have c0 := C 0; have c1 := C 1; have c2 := C 2; have c3 := C 3; have c4 := C 4; have c5 := C 5
  simp only [List.getElem?_toArray, List.getElem?_cons_zero, List.getElem?_cons_succ] at c0 c1 c2 c3 c4 c5
  have hlt := size_alloc w (.cells #[.int .i64 id, .int .i64 kind, .int .i64 links, .int .i64 size, .int .u64 (til : Int), .bool closed] 43)
  have hE := (Ext.refl w).alloc (.cells #[.int .i64 id, .int .i64 kind, .int .i64 links, .int .i64 size, .int .u64 (til : Int), .bool closed] 43)
  obtain ⟨H, hH⟩ : ∃ H, H = w.heap.size := ⟨_, rfl⟩
  rw [← hH] at c0 c1 c2 c3 c4 c5 hlt hE ⊢
  have HH := Lib.hid hH
  clear hH C
  go_enter Try.func57, Try.ntmps57
  go_upto_region 1 with fail
  rw [← HH.out]
  generalize w.alloc (.cells #[.int .i64 id, .int .i64 kind, .int .i64 links, .int .i64 size, .int .u64 (til : Int), .bool closed] 43) = w0 at *
  go_cut [3] (fun v wx => Own wx w0.heap.size v (shI id ++ [UInt8.ofNat (kind % 256).toNat] ++ shI links) ∧ Ext w0.heap.size w0 wx)
  case first =>
    have hE0 := (Ext.refl w0).drew
    go_region_held3 (fun w' => w'.cell? ⟨H, 0, none⟩ = some (.int .i64 id) ∧ w'.cell? ⟨H, 1, none⟩ = some (.int .i64 kind) ∧ w'.cell? ⟨H, 2, none⟩ = some (.int .i64 links)) (go_keep) ((first
      | (go_at_call_of 35 (Value.slice none 0 0); refine (ref_short_int none 0 0 [] id _ (Bs.nil _) (by unfold big; decide)).mono ?_; rintro e w2 ⟨v2, rfl, ho2, hb2⟩; obtain ⟨a2, k2, rfl, hB2⟩ := ho2.bsn (n := 2) rfl; have hE2 := hE0.step hb2; have g0 := hE2.cel hlt c0; have g1 := hE2.cel hlt c1; have g2 := hE2.cel hlt c2)
      | (go_at_call 30; refine (ref_byte_int _ _ _ _ kind _ hB2 (by unfold big; decide)).mono ?_; rintro e w3 ⟨v3, rfl, ho3, hb3⟩; obtain ⟨a3, k3, rfl, hB3⟩ := ho3.bsn (n := 3) rfl; have hE3 := hE2.step hb3; have g0 := hE3.cel hlt c0; have g1 := hE3.cel hlt c1; have g2 := hE3.cel hlt c2)
      | (go_at_call 35; refine (ref_short_int _ _ _ _ links _ hB3 (by unfold big; decide)).mono ?_; rintro e w4 ⟨v4, rfl, ho4, hb4⟩; have hE4 := hE3.step hb4; have g0 := hE4.cel hlt c0; have g1 := hE4.cel hlt c1; have g2 := hE4.cel hlt c2)))
    all_goals (go_wp2_with fail; go_meet; exact ⟨by simpa [shI] using ho4.base hE3.2, hE4⟩)
  case rest =>
    obtain ⟨ho, hEc⟩ := hcut
    have c3 := hEc.cel hlt c3
    have c4 := hEc.cel hlt c4
    have c5 := hEc.cel hlt c5
    have hlt := Nat.lt_of_lt_of_le hlt hEc.1.size
    have hE5 := hE.to (hEc.1.mono (by have := hE.2; omega))
    have hXl : (shI id ++ [UInt8.ofNat (kind % 256).toNat] ++ shI links).length = 5 := rfl
    generalize hXe : shI id ++ [UInt8.ofNat (kind % 256).toNat] ++ shI links = X at *
    have HXE := Lib.hid hXe
    clear hXe
    obtain ⟨a5, k5, rfl, hB5⟩ := ho.bsn hXl
    have hE5d := (Ext.refl wc).drew
    have hB5d := hB5.drew
    clear hE hEc ho c0 c1 c2
    go_upto_region 2 with fail
    go_region_held3 (fun w' => w'.cell? ⟨H, 3, none⟩ = some (.int .i64 size) ∧ w'.cell? ⟨H, 4, none⟩ = some (.int .u64 (til : Int)) ∧ w'.cell? ⟨H, 5, none⟩ = some (.bool closed)) (go_keep) ((first
      | (go_at_call 35; refine (ref_short_int _ _ _ _ size _ hB5d (by unfold big; decide)).mono ?_; rintro e w6 ⟨v6, rfl, ho6, hb6⟩; obtain ⟨a6, k6, rfl, hB6⟩ := ho6.bsn (n := 7) (by rw [List.length_append, hXl]; rfl); have hE6 := hE5d.step hb6; have g3 := hE6.cel hlt c3; have g4 := hE6.cel hlt c4; have g5 := hE6.cel hlt c5)
      | (go_at_call 37; refine (ref_long _ _ _ _ til _ hB6 (by unfold big; decide)).mono ?_; rintro e w7 ⟨v7, rfl, ho7, hb7⟩; obtain ⟨a7, k7, rfl, hB7⟩ := ho7.bsn (n := 15) (by rw [List.length_append, List.length_append, hXl, be_length]; rfl); have hE7 := hE6.step hb7; have g3 := hE7.cel hlt c3; have g4 := hE7.cel hlt c4; have g5 := hE7.cel hlt c5)
      | (go_at_call 56; refine (ref_flag _ _ _ _ closed _ hB7 (by unfold big; decide)).mono ?_; rintro e w8 ⟨v8, rfl, ho8, hb8⟩; have hE8 := hE7.step hb8; have g3 := hE8.cel hlt c3; have g4 := hE8.cel hlt c4; have g5 := hE8.cel hlt c5)))
    all_goals
      go_wp2_with fail
      go_ret
      refine ⟨_, rfl, ?_, (hE5.to (hE8.1.mono hE5.2)).1⟩
      rw [HXE.out]
      exact ho8.base (Nat.le_trans hE5.2 hE7.2)

theorem Ext.nextR {w W W' : World} {q : Nat} {ys : List UInt8} {s : List UInt8 × Nat} (h : Ext q w W) (hP : RRPost W q q ys s W') : Ext q w W' ∧ RR W' q q ys s :=
  ⟨h.to (hP.2.below h.2 (fun _ _ hs => Nat.le_of_eq hs.symm)), hP.1⟩

set_option maxHeartbeats 1000000 in
set_option maxRecDepth 100000 in
theorem rndec_any (a : Option Addr) (len cap : Nat) (xs : List UInt8) (w : World) (h : Bs w a len cap xs) (hl : len ≤ big) :
    Calls Try.prog 77 #[.slice a len cap] w fun e w' => e = .returned (decV (ndDec xs)) ∧ Below w.heap.size w w' := by
  have hxl := h.1
  obtain ⟨o, ho⟩ : ∃ o, o = ndDec xs := ⟨_, rfl⟩
  have HO := Lib.hid ho
  rw [← ho]
  clear ho
  unfold ndDec ndRead at HO
  go_enter Try.func77, Try.ntmps77
  go_upto_region 1 with fail
  have hE0 := (Ext.refl w).alloc (.cells #[.int .i64 0, .int .i64 0, .int .i64 0, .int .i64 0, .int .u64 0, .bool false] 43)
  have h' := h.alloc (.cells #[.int .i64 0, .int .i64 0, .int .i64 0, .int .i64 0, .int .u64 0, .bool false] 43)
  have hsz := size_alloc w (.cells #[.int .i64 0, .int .i64 0, .int .i64 0, .int .i64 0, .int .u64 0, .bool false] 43)
  have C := cell_new w #[.int .i64 0, .int .i64 0, .int .i64 0, .int .i64 0, .int .u64 0, .bool false] 43
  have F := frozen_new w #[.int .i64 0, .int .i64 0, .int .i64 0, .int .i64 0, .int .u64 0, .bool false] 43
  have C0 := C 0
  have C1 := C 1
  have C2 := C 2
  have C3 := C 3
  have C4 := C 4
  have C5 := C 5
  simp only [List.getElem?_toArray, List.getElem?_cons_zero, List.getElem?_cons_succ] at C0 C1 C2 C3 C4 C5
  have F0 := F 0; have F1 := F 1; have F2 := F 2; have F3 := F 3; have F4 := F 4; have F5 := F 5
  clear C F h
  generalize w.alloc (.cells #[.int .i64 0, .int .i64 0, .int .i64 0, .int .i64 0, .int .u64 0, .bool false] 43) = w0 at *
  obtain ⟨H, hH⟩ : ∃ H, H = w.heap.size := ⟨_, rfl⟩
  rw [← hH] at hE0 hsz C0 C1 C2 C3 C4 C5 F0 F1 F2 F3 F4 F5 ⊢
  have HH := Lib.hid hH
  clear hH
  have hR := RR.new h' hl
  have hE1 := (Ext.refl w0).alloc (.cells #[.slice a len cap, .int .i64 0, .int .i64 0] 91)
  have HC := Lib.hid (And.intro C0 (And.intro C1 (And.intro C2 (And.intro C3 (And.intro C4 C5)))))
  have HF := Lib.hid (And.intro F0 (And.intro F1 (And.intro F2 (And.intro F3 (And.intro F4 F5)))))
  obtain ⟨p, hp⟩ : ∃ p, p = w0.heap.size := ⟨_, rfl⟩
  rw [← hp] at hR hE1 hsz
  have HPW := Lib.hid hp
  clear h' C0 C1 C2 C3 C4 C5 F0 F1 F2 F3 F4 F5 hp
  clear hl hxl
  go_upto_region 2 with fail
  rw [← HPW.out]
  generalize w0.alloc (.cells #[.slice a len cap, .int .i64 0, .int .i64 0] 91) = w1 at *
  have hv1 := rdShort_lt (xs, 0)
  have hC1 := Lib.hid (rref_short p p xs (xs, 0) w1 hR)
  generalize (rdShort (xs, 0)).1 = v1 at *
  generalize (rdShort (xs, 0)).2 = s1 at *
  have hv2 := rdByte_lt s1
  have hC2 := Lib.hid (fun w h => rref_byte p p xs s1 w h)
  generalize (rdByte s1).1 = v2 at *
  generalize (rdByte s1).2 = s2 at *
  have hv3 := rdShort_lt s2
  have hC3 := Lib.hid (fun w h => rref_short p p xs s2 w h)
  generalize (rdShort s2).1 = v3 at *
  generalize (rdShort s2).2 = s3 at *
  have hv4 := rdShort_lt s3
  have hC4 := Lib.hid (fun w h => rref_short p p xs s3 w h)
  generalize (rdShort s3).1 = v4 at *
  generalize (rdShort s3).2 = s4 at *
  have hv5 := rdLong_lt s4
  have hC5 := Lib.hid (fun w h => rref_long p p xs s4 w h)
  generalize (rdLong s4).1 = v5 at *
  generalize (rdLong s4).2 = s5 at *
  have hC6 := Lib.hid (fun w h => rref_flag p p xs s5 w h)
  generalize (rdFlag s5).1 = v6 at *
  generalize (rdFlag s5).2 = s6 at *
  go_wp2_with fail
  refine hC1.out.mono ?_
  rintro e w2 ⟨rfl, hP⟩
  obtain ⟨hE2, hR2⟩ := hE1.nextR hP
  clear hP hE1 hR
  go_wp2_with fail
  refine (hC2.out _ hR2).mono ?_
  rintro e w3 ⟨rfl, hP⟩
  obtain ⟨hE3, hR3⟩ := hE2.nextR hP
  clear hP hE2 hR2
  go_wp2_with fail
  refine (hC3.out _ hR3).mono ?_
  rintro e w4 ⟨rfl, hP⟩
  obtain ⟨hE4, hR4⟩ := hE3.nextR hP
  clear hP hE3 hR3
  go_wp2_with fail
  refine (hC4.out _ hR4).mono ?_
  rintro e w5 ⟨rfl, hP⟩
  obtain ⟨hE5, hR5⟩ := hE4.nextR hP
  clear hP hE4 hR4
  go_wp2_with fail
  refine (hC5.out _ hR5).mono ?_
  rintro e w6 ⟨rfl, hP⟩
  obtain ⟨hE6, hR6⟩ := hE5.nextR hP
  clear hP hE5 hR5
  go_wp2_with fail
  refine (hC6.out _ hR6).mono ?_
  rintro e w7 ⟨rfl, hP⟩
  obtain ⟨hE7, hR7⟩ := hE6.nextR hP
  clear hP hE6 hR6 hC1 hC2 hC3 hC4 hC5 hC6
  obtain ⟨c0, c1, c2, c3, c4, c5⟩ := HC.out
  obtain ⟨f0, f1, f2, f3, f4, f5⟩ := HF.out
  have c0 := hE7.cel hsz c0
  have c1 := hE7.cel hsz c1
  have c2 := hE7.cel hsz c2
  have c3 := hE7.cel hsz c3
  have c4 := hE7.cel hsz c4
  have c5 := hE7.cel hsz c5
  have f0 := hE7.frz hsz f0
  have f1 := hE7.frz hsz f1
  have f2 := hE7.frz hsz f2
  have f3 := hE7.frz hsz f3
  have f4 := hE7.frz hsz f4
  have f5 := hE7.frz hsz f5
  have hlt7 : H < w7.heap.size := Nat.lt_of_lt_of_le hsz hE7.2
  have D := cell_new w7 #[.int .i64 (v1 : Int), .int .i64 (v2 : Int), .int .i64 (v3 : Int), .int .i64 (v4 : Int), .int .u64 (v5 : Int), .bool v6] 43
  have d0 := D 0; have d1 := D 1; have d2 := D 2; have d3 := D 3; have d4 := D 4; have d5 := D 5
  simp only [List.getElem?_toArray, List.getElem?_cons_zero, List.getElem?_cons_succ] at d0 d1 d2 d3 d4 d5
  have hsG := size_alloc w7 (.cells #[.int .i64 (v1 : Int), .int .i64 (v2 : Int), .int .i64 (v3 : Int), .int .i64 (v4 : Int), .int .u64 (v5 : Int), .bool v6] 43)
  have hE7a := hE7.alloc (.cells #[.int .i64 (v1 : Int), .int .i64 (v2 : Int), .int .i64 (v3 : Int), .int .i64 (v4 : Int), .int .u64 (v5 : Int), .bool v6] 43)
  have HEN := Lib.hid (rref_end p p xs s6 _ (hR7.chg ((Below.refl _ _).alloc (Nat.le_refl _) (.cells #[.int .i64 (v1 : Int), .int .i64 (v2 : Int), .int .i64 (v3 : Int), .int .i64 (v4 : Int), .int .u64 (v5 : Int), .bool v6] 43))))
  obtain ⟨G, hG⟩ : ∃ G, G = w7.heap.size := ⟨_, rfl⟩
  rw [← hG] at d0 d1 d2 d3 d4 d5 hsG
  have HG := Lib.hid hG
  have HR := Lib.hid (fun w => rnright_any ⟨v1, v2, v3, v4, v5, v6⟩ w)
  unfold Nd.cells at HR
  simp only at HR
  clear D hG hR7 c0 c1 c2 c3 c4 c5 f0 f1 f2 f3 f4 f5
  go_upto_region 3 with fail
  rw [← HG.out]
  generalize w7.alloc (.cells #[.int .i64 (v1 : Int), .int .i64 (v2 : Int), .int .i64 (v3 : Int), .int .i64 (v4 : Int), .int .u64 (v5 : Int), .bool v6] 43) = w8 at *
  go_wp2_with fail
  refine HEN.out.mono ?_
  rintro e w9 ⟨rfl, hb9⟩
  have hE9 := hE7a.step hb9
  have hEw := hE0.to (hE9.1.mono (Nat.le_of_lt hsz))
  have d0 := (hb9.cell (p := ⟨G, 0, none⟩) hsG).trans d0
  have d1 := (hb9.cell (p := ⟨G, 1, none⟩) hsG).trans d1
  have d2 := (hb9.cell (p := ⟨G, 2, none⟩) hsG).trans d2
  have d3 := (hb9.cell (p := ⟨G, 3, none⟩) hsG).trans d3
  have d4 := (hb9.cell (p := ⟨G, 4, none⟩) hsG).trans d4
  have d5 := (hb9.cell (p := ⟨G, 5, none⟩) hsG).trans d5
  have hsG := Nat.lt_of_lt_of_le hsG hb9.size
  clear HEN hE7 hE7a
  generalize rdEnd s6 = en at *
  by_cases hen : en = 0
  · subst hen
    go_wp2_with fail
    refine (HR.out _).mono ?_
    rintro e w10 ⟨rfl, hb⟩
    have hE8 := hE9.step hb
    have d0 := (hb.cell (p := ⟨G, 0, none⟩) hsG).trans d0
    have d1 := (hb.cell (p := ⟨G, 1, none⟩) hsG).trans d1
    have d2 := (hb.cell (p := ⟨G, 2, none⟩) hsG).trans d2
    have d3 := (hb.cell (p := ⟨G, 3, none⟩) hsG).trans d3
    have d4 := (hb.cell (p := ⟨G, 4, none⟩) hsG).trans d4
    have d5 := (hb.cell (p := ⟨G, 5, none⟩) hsG).trans d5
    obtain ⟨c0, c1, c2, c3, c4, c5⟩ := HC.out
    obtain ⟨f0, f1, f2, f3, f4, f5⟩ := HF.out
    have c0 := hE8.cel hsz c0
    have c1 := hE8.cel hsz c1
    have c2 := hE8.cel hsz c2
    have c3 := hE8.cel hsz c3
    have c4 := hE8.cel hsz c4
    have c5 := hE8.cel hsz c5
    have f0 := hE8.frz hsz f0
    have f1 := hE8.frz hsz f1
    have f2 := hE8.frz hsz f2
    have f3 := hE8.frz hsz f3
    have f4 := hE8.frz hsz f4
    have f5 := hE8.frz hsz f5
    by_cases hok : Nd.Ok ⟨v1, v2, v3, v4, v5, v6⟩
    · have ho : o = some ⟨v1, v2, v3, v4, v5, v6⟩ := by rw [HO.out, if_pos ⟨trivial, hok⟩]
      have hdk := decide_eq_true hok
      subst ho
      rw [hdk]
      clear HO hok hdk
      go_wp2_with fail
      refine bodyPost_ret (v := decV (some ⟨v1, v2, v3, v4, v5, v6⟩)) (by simp [results, Try.results77, go_sem, decV, Nd.cells, c0, c1, c2, c3, c4, c5]) rfl ⟨rfl, ?_⟩
      rw [← HH.out]
      exact ((((((((hEw.to (hb.mono (by have := hEw.2; omega))).setCell (Nat.le_refl _) _).setCell (Nat.le_refl _) _).setCell (Nat.le_refl _) _).setCell (Nat.le_refl _) _).setCell (Nat.le_refl _) _).setCell (Nat.le_refl _) _)).1
    · have ho : o = none := by rw [HO.out, if_neg (fun h => hok h.2)]
      have hdk := decide_eq_false hok
      subst ho
      rw [hdk]
      clear HO hok hdk
      go_wp2_with fail
      refine bodyPost_ret (v := decV none) (by simp [results, Try.results77, go_sem, decV, Nd.cells, zeroNd, c0, c1, c2, c3, c4, c5]) rfl ⟨rfl, ?_⟩
      rw [← HH.out]
      exact ((((((((hEw.to (hb.mono (by have := hEw.2; omega))).setCell (Nat.le_refl _) _).setCell (Nat.le_refl _) _).setCell (Nat.le_refl _) _).setCell (Nat.le_refl _) _).setCell (Nat.le_refl _) _).setCell (Nat.le_refl _) _)).1
  · have hen1 : ((en : Int) != 0) = true := by rw [bne_iff_ne]; omega
    have ho : o = none := by rw [HO.out, if_neg (fun h => hen h.1)]
    obtain ⟨c0, c1, c2, c3, c4, c5⟩ := HC.out
    obtain ⟨f0, f1, f2, f3, f4, f5⟩ := HF.out
    have c0 := hE9.cel hsz c0
    have c1 := hE9.cel hsz c1
    have c2 := hE9.cel hsz c2
    have c3 := hE9.cel hsz c3
    have c4 := hE9.cel hsz c4
    have c5 := hE9.cel hsz c5
    have f0 := hE9.frz hsz f0
    have f1 := hE9.frz hsz f1
    have f2 := hE9.frz hsz f2
    have f3 := hE9.frz hsz f3
    have f4 := hE9.frz hsz f4
    have f5 := hE9.frz hsz f5
    subst ho
    clear HO hen
    go_wp2_with fail
    refine bodyPost_ret (v := decV none) (by simp [results, Try.results77, go_sem, decV, Nd.cells, zeroNd, c0, c1, c2, c3, c4, c5]) rfl ⟨rfl, ?_⟩
    rw [← HH.out]
    exact ((((((hEw.setCell (Nat.le_refl _) _).setCell (Nat.le_refl _) _).setCell (Nat.le_refl _) _).setCell (Nat.le_refl _) _).setCell (Nat.le_refl _) _).setCell (Nat.le_refl _) _).1
end Go.Proofs.Ytphjdlckoddgmaa
