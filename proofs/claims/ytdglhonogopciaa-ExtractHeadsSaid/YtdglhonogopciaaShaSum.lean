/- The contracts of sha.Stream.Sum and Len, of sha.Sum, Leaf and Pair. -/
import Derived.Test.YtdglhonogopciaaShaWrite
import Derived.Test.YtdglhonogopciaaShaPad
import Derived.Test.YtdglhonogopciaaClone
namespace Go.Proofs.Ytdglhonogopciaa
open Go.RowKit

/-- the words of an array of its own -/
theorem SB.at00 {w : World} {g : Nat} {T : TypeId} {l : List UInt32} (h : SB w g T [] l []) (i : Nat) (x : UInt32) (hi : l[i]? = some x) : w.cell? ⟨g, i, none⟩ = some (.int .u32 (wd x)) := by
  obtain ⟨hl, rfl⟩ := List.getElem?_eq_some_iff.1 hi
  have := SB.cell h i hl
  rwa [List.length_nil, Nat.zero_add] at this
theorem Ext.upto {B : Nat} {a w w' : World} (h : Ext B a w) (hb : Below B w w') : Ext B a w' := ⟨h.1.trans hb, Nat.le_trans h.2 hb.size⟩

/-- what one append of a word's four bytes leaves -/
theorem append_word {w W : World} {B : Nat} {v : Value} {xs : List UInt8} (hE : Ext B w W) (h : Own W B v xs) (b0 b1 b2 b3 : Int) (x : UInt32) (h0 : b0 = wd x / 16777216 % 256) (h1 : b1 = wd x / 65536 % 256) (h2 : b2 = wd x / 256 % 256) (h3 : b3 = wd x % 256) (hl : xs.length ≤ 2000000) {ops : Array Oper} {rest : List Oper} {o : Oper} {a : Act} {Q : Exit → Act → World → Prop} (hgd : o.guard = none) (s y : Operand)
    (ho : o.op = .call { callee := .builtin .append, args := #[s, y], argTypes := #[23, 23] }) (hs : a.eval s = v) (hy : a.eval y = .slice (some ⟨W.heap.size, 0, none⟩) 4 4)
    (hh : ∀ v' W', Ext B w W' → Own W' B v' (xs ++ wbytes x) → Chg (fun k => v.ownBlock = some k) W W' → wpList Try.prog ops Q rest (a.put o.dst v') W') : wpList Try.prog ops Q (o :: rest) a (W.alloc (.cells #[.int .u8 b0, .int .u8 b1, .int .u8 b2, .int .u8 b3] TB)) := by
  have hB : Bs (W.alloc (.cells #[.int .u8 b0, .int .u8 b1, .int .u8 b2, .int .u8 b3] TB)) (some ⟨W.heap.size, 0, none⟩) 4 4 (wbytes x) := by
    refine Bs.newRow W _ TB (0, 0) 4 4 (wbytes x) rfl (Nat.le_refl _) (by simp [maxLen]) ?_
    subst h0 h1 h2 h3
    have e : ∀ n : Nat, bv (UInt8.ofNat n) = .int .u8 ((n : Int) % 256) := fun n => by rw [bv, u8_of]
    simp only [wbytes, List.map_cons, List.map_nil, e]
    unfold wd
    rfl
  refine wpList_append_bytes hgd s y ho B v xs hs (h.alloc _) _ 4 4 (wbytes x) hy hB (by omega) (by have := hE.2; simp; omega) fun v' W' g1 g2 _ => hh v' W' ?_ g1 ?_
  · exact (hE.alloc _).grown g2 (fun k hk => (World.ownsRow.lt h k hk).1)
  · exact ((Chg.refl _ W).alloc _).grown g2 (fun k _ hk => hk)

set_option maxHeartbeats 4000000 in
set_option maxRecDepth 100000 in
theorem shasum_st (B p : Nat) (g : Option Nat) (xs : List UInt8) (w : World) (h : Strm w B p g xs) (hl : xs.length ≤ 1000000) :
    Calls Try.prog 34 #[.pointer (some ⟨p, 0, none⟩)] w fun e w' => ∃ v, e = .returned v ∧ Own w' w.heap.size v (sha xs) ∧ Below w.heap.size w w' := by
  obtain ⟨hBp, v, hS, hO, hvg, hgp⟩ := h
  have hS : Sb w p (hashed xs).list v xs.length := hS
  obtain ⟨r, hr⟩ : ∃ r, r = (held xs).length := ⟨_, rfl⟩
  obtain ⟨av, cv, rfl, hBv⟩ := hO.bsn hr.symm
  have hr64 : r < 64 := by rw [hr, held_length]; omega
  obtain ⟨H, hH⟩ : ∃ H, H = w.heap.size := ⟨_, rfl⟩
  rw [← hH]
  have HH := Lib.hid hH
  have hpH : p < H := by rw [hH]; exact SB.lt hS
  have HS := Lib.hid hS
  have HX := Lib.hid hr
  obtain ⟨n0, hn0⟩ : ∃ n0, n0 = xs.length := ⟨_, rfl⟩
  have HN := Lib.hid hn0
  rw [← hn0] at hl
  obtain ⟨Z, hZ⟩ : ∃ Z, Z = (119 - r % 64) % 64 := ⟨_, rfl⟩
  have hZ1 : (r + 1 + Z) % 64 = 56 := by omega
  have hZ2 : ∀ k, k < Z → (r + 1 + k) % 64 ≠ 56 := by omega
  have hZ3 : Z < 64 := by omega
  have HZ := Lib.hid (And.intro hZ1 (And.intro hZ2 hZ))
  have HCl := Lib.hid (clone_any av r cv (held xs) w hBv (by unfold big; omega))
  have c72 := hS.c72 (S8.list_length _)
  have c73 := hS.c73 (S8.list_length _)
  rw [← hn0] at c73
  have HC := Lib.hid (And.intro c72 c73)
  have hn0x := hn0
  clear hS hO hH hr hn0 hZ hZ1 hZ2 hBv c73
  have HSH : Hid (sha xs = (blocks ((padTo (held xs) xs.length).length / 64) (hashed xs) (padTo (held xs) xs.length)).bytes) := Lib.hid (sha_held xs)
  rw [← hn0x] at HSH
  clear hn0x
  generalize held xs = hd at *
  go_enter Try.func34, Try.ntmps34
  go_wp2_with fail
  refine HCl.out.mono ?_
  rintro e w1 ⟨v1, rfl, ho1, hb1⟩
  rw [← HH.out] at ho1
  have hE1 : Ext H w w1 := by rw [HH.out]; exact (Ext.refl w).step hb1
  have hxm : hd.length ≤ 2000000 := by rw [← HX.out]; omega
  clear c72 hb1
  go_wp2_with (at_builtin; refine append_byte hE1 ho1 _ 0x80 rfl hxm rfl _ _ rfl rfl rfl ?_)
  intro v2 w2 hE3 ho2 _
  rw [padZ_zero] at ho2
  clear hE1 ho1
  go_upto_block 0 with fail
  go_cut [3] (fun v wr => Ext H w wr ∧ Own wr H v (padZ hd Z))
  case first =>
    obtain ⟨a2, c2, rfl, _⟩ := ho2.bsn (n := r + 1) (by rw [padZ_length, HX.out])
    go_wp2_with fail
    go_loopw [3] (fun v wr => ∃ (k : Nat) (av : Option Addr) (cv : Nat), k ≤ Z ∧ v = .slice av (r + 1 + k) cv ∧ Ext H w wr ∧ Own wr H v (padZ hd k)) (fun v _ => r + 1 + Z - lenOfS v)
    case atStart => exact ⟨0, a2, c2, by omega, rfl, hE3, ho2⟩
    case round =>
      obtain ⟨k, av, cv, hk, rfl, hE, ho⟩ := hrel
      clear hE3 ho2
      by_cases hlt : k < Z
      · have hne : (((r + 1 + k : Nat) : Int) % 64 != 56) = true := by rw [bne_iff_ne]; have := HZ.out.2.1 k hlt; omega
        have hol : (padZ hd k).length ≤ 2000000 := by rw [padZ_length, ← HX.out]; omega
        go_wp2_with (at_builtin; refine append_byte hE ho _ 0 rfl hol rfl _ _ rfl rfl rfl ?_)
        intro v3 w3 hE3 ho3 _
        rw [padZ_succ] at ho3
        obtain ⟨a3, c3, rfl, _⟩ := ho3.bsn (n := r + 1 + (k + 1)) (by rw [padZ_length, ← HX.out])
        go_wp2_with fail
        go_roundw
        case rel => exact ⟨k + 1, a3, c3, by omega, rfl, hE3, ho3⟩
        case measure => simp [lenOfS]; omega
      · obtain rfl : k = Z := by omega
        have hne : (((r + 1 + k : Nat) : Int) % 64 != 56) = false := by rw [bne_eq_false_iff_eq]; have := HZ.out.1; omega
        go_wp2_with fail
        go_meet
        exact ⟨hE, ho⟩
  case rest =>
    obtain ⟨hE, ho⟩ := hcut
    clear hE3 ho2
    have hpl : (padZ hd Z).length ≤ 1000100 := by rw [padZ_length, ← HX.out]; omega
    have c73 := (hE.1.cell (p := ⟨p, 73, none⟩) hpH).trans HC.out.2
    go_upto_block 2 with fail
    go_cut [3] (fun v wr => Ext H w wr ∧ Own wr H v (padTo hd n0))
    case first =>
      go_wp2_with fail
      go_loopw [3, 5] (fun v i wr => ∃ j : Nat, j ≤ 8 ∧ i = .int .i64 (7 - (j : Int)) ∧ Ext H w wr ∧ Own wr H v (padZ hd Z ++ (padTo.be8 n0).take j)) (fun _ i _ => (1 + intOf i).toNat)
      case atStart => exact ⟨0, by omega, rfl, hE, by simpa using ho⟩
      case round =>
        obtain ⟨j, hj, rfl, hE1, ho1⟩ := hrel
        clear hE ho
        by_cases hlt : j < 8
        · have hol : (padZ hd Z ++ (padTo.be8 n0).take j).length ≤ 2000000 := by
            rw [List.length_append]
            have : ((padTo.be8 n0).take j).length ≤ j := List.length_take_le _ _
            omega
          have htk := be8_take n0 j hlt
          generalize hL : padZ hd Z ++ (padTo.be8 n0).take j = L at *
          have HL := Lib.hid (show L ++ [(padTo.be8 n0).getD j 0] = padZ hd Z ++ (padTo.be8 n0).take (j + 1) by rw [htk, ← hL, List.append_assoc])
          clear htk hL
          rcases (show j = 0 ∨ j = 1 ∨ j = 2 ∨ j = 3 ∨ j = 4 ∨ j = 5 ∨ j = 6 ∨ j = 7 by omega) with rfl | rfl | rfl | rfl | rfl | rfl | rfl | rfl
          · have hb0 : (((padTo.be8 n0).getD 0 0).toNat : Int) = ((8 * n0 / 72057594037927936 : Nat) : Int) % 256 := by
              show ((UInt8.ofNat (8 * n0 / 72057594037927936)).toNat : Int) = _
              rw [u8_of]
            generalize (padTo.be8 n0).getD 0 0 = x at *
            have HB := Lib.hid hb0
            clear hb0
            go_wp2_with (at_builtin; refine append_byte hE1 ho1 _ x ?hb0 hol rfl _ _ rfl rfl rfl ?_)
            case hb0 => rw [HB.out]; omega
            intro v3 w3 hE3 ho3 _
            rw [HL.out] at ho3
            go_wp2_with fail
            go_roundw
            case rel => exact ⟨1, by omega, rfl, hE3, ho3⟩
            case measure => simp [intOf]
          · have hb1 : (((padTo.be8 n0).getD 1 0).toNat : Int) = ((8 * n0 / 281474976710656 : Nat) : Int) % 256 := by
              show ((UInt8.ofNat (8 * n0 / 281474976710656)).toNat : Int) = _
              rw [u8_of]
            generalize (padTo.be8 n0).getD 1 0 = x at *
            have HB := Lib.hid hb1
            clear hb1
            go_wp2_with (at_builtin; refine append_byte hE1 ho1 _ x ?hb1 hol rfl _ _ rfl rfl rfl ?_)
            case hb1 => rw [HB.out]; omega
            intro v3 w3 hE3 ho3 _
            rw [HL.out] at ho3
            go_wp2_with fail
            go_roundw
            case rel => exact ⟨2, by omega, rfl, hE3, ho3⟩
            case measure => simp [intOf]
          · have hb2 : (((padTo.be8 n0).getD 2 0).toNat : Int) = ((8 * n0 / 1099511627776 : Nat) : Int) % 256 := by
              show ((UInt8.ofNat (8 * n0 / 1099511627776)).toNat : Int) = _
              rw [u8_of]
            generalize (padTo.be8 n0).getD 2 0 = x at *
            have HB := Lib.hid hb2
            clear hb2
            go_wp2_with (at_builtin; refine append_byte hE1 ho1 _ x ?hb2 hol rfl _ _ rfl rfl rfl ?_)
            case hb2 => rw [HB.out]; omega
            intro v3 w3 hE3 ho3 _
            rw [HL.out] at ho3
            go_wp2_with fail
            go_roundw
            case rel => exact ⟨3, by omega, rfl, hE3, ho3⟩
            case measure => simp [intOf]
          · have hb3 : (((padTo.be8 n0).getD 3 0).toNat : Int) = ((8 * n0 / 4294967296 : Nat) : Int) % 256 := by
              show ((UInt8.ofNat (8 * n0 / 4294967296)).toNat : Int) = _
              rw [u8_of]
            generalize (padTo.be8 n0).getD 3 0 = x at *
            have HB := Lib.hid hb3
            clear hb3
            go_wp2_with (at_builtin; refine append_byte hE1 ho1 _ x ?hb3 hol rfl _ _ rfl rfl rfl ?_)
            case hb3 => rw [HB.out]; omega
            intro v3 w3 hE3 ho3 _
            rw [HL.out] at ho3
            go_wp2_with fail
            go_roundw
            case rel => exact ⟨4, by omega, rfl, hE3, ho3⟩
            case measure => simp [intOf]
          · have hb4 : (((padTo.be8 n0).getD 4 0).toNat : Int) = ((8 * n0 / 16777216 : Nat) : Int) % 256 := by
              show ((UInt8.ofNat (8 * n0 / 16777216)).toNat : Int) = _
              rw [u8_of]
            generalize (padTo.be8 n0).getD 4 0 = x at *
            have HB := Lib.hid hb4
            clear hb4
            go_wp2_with (at_builtin; refine append_byte hE1 ho1 _ x ?hb4 hol rfl _ _ rfl rfl rfl ?_)
            case hb4 => rw [HB.out]; omega
            intro v3 w3 hE3 ho3 _
            rw [HL.out] at ho3
            go_wp2_with fail
            go_roundw
            case rel => exact ⟨5, by omega, rfl, hE3, ho3⟩
            case measure => simp [intOf]
          · have hb5 : (((padTo.be8 n0).getD 5 0).toNat : Int) = ((8 * n0 / 65536 : Nat) : Int) % 256 := by
              show ((UInt8.ofNat (8 * n0 / 65536)).toNat : Int) = _
              rw [u8_of]
            generalize (padTo.be8 n0).getD 5 0 = x at *
            have HB := Lib.hid hb5
            clear hb5
            go_wp2_with (at_builtin; refine append_byte hE1 ho1 _ x ?hb5 hol rfl _ _ rfl rfl rfl ?_)
            case hb5 => rw [HB.out]; omega
            intro v3 w3 hE3 ho3 _
            rw [HL.out] at ho3
            go_wp2_with fail
            go_roundw
            case rel => exact ⟨6, by omega, rfl, hE3, ho3⟩
            case measure => simp [intOf]
          · have hb6 : (((padTo.be8 n0).getD 6 0).toNat : Int) = ((8 * n0 / 256 : Nat) : Int) % 256 := by
              show ((UInt8.ofNat (8 * n0 / 256)).toNat : Int) = _
              rw [u8_of]
            generalize (padTo.be8 n0).getD 6 0 = x at *
            have HB := Lib.hid hb6
            clear hb6
            go_wp2_with (at_builtin; refine append_byte hE1 ho1 _ x ?hb6 hol rfl _ _ rfl rfl rfl ?_)
            case hb6 => rw [HB.out]; omega
            intro v3 w3 hE3 ho3 _
            rw [HL.out] at ho3
            go_wp2_with fail
            go_roundw
            case rel => exact ⟨7, by omega, rfl, hE3, ho3⟩
            case measure => simp [intOf]
          · have hb7 : (((padTo.be8 n0).getD 7 0).toNat : Int) = ((8 * n0 / 1 : Nat) : Int) % 256 := by
              show ((UInt8.ofNat (8 * n0)).toNat : Int) = _
              rw [u8_of]; simp
            generalize (padTo.be8 n0).getD 7 0 = x at *
            have HB := Lib.hid hb7
            clear hb7
            go_wp2_with (at_builtin; refine append_byte hE1 ho1 _ x ?hb7 hol rfl _ _ rfl rfl rfl ?_)
            case hb7 => rw [HB.out]; omega
            intro v3 w3 hE3 ho3 _
            rw [HL.out] at ho3
            go_wp2_with fail
            go_roundw
            case rel => exact ⟨8, by omega, rfl, hE3, ho3⟩
            case measure => simp [intOf]
        · obtain rfl : j = 8 := by omega
          go_wp2_with fail
          go_meet
          exact ⟨hE1, by rw [padTo_eq hd n0 Z (by rw [← HX.out]; exact HZ.out.2.2)]; exact ho1⟩
    case rest =>
      obtain ⟨hE, ho⟩ := hcut
      have hsha := HSH.out
      clear hpl c73 HC hxm HZ hZ3
      have hml := padTo_length hd n0
      have hmp := padTo_pos hd n0
      generalize padTo hd n0 = m at *
      obtain ⟨hm1, hm2⟩ := hml
      obtain ⟨Q, hQ⟩ : ∃ Q, Q = m.length / 64 := ⟨_, rfl⟩
      rw [← hQ] at hm1 hsha
      have hQ2 : Q ≤ 3 := by rw [← HX.out] at hm2; omega
      have HSHA := Lib.hid hsha
      obtain ⟨am, cm, rfl, hBm⟩ := ho.bsn hm1
      obtain ⟨ge, rfl, hgeH, hgew⟩ : ∃ gm, am = some ⟨gm, 0, none⟩ ∧ H ≤ gm ∧ gm < wc.heap.size := by
        rcases ho.parts with ⟨h1, h2⟩ | ⟨g, c, h1, h2, h3⟩
        · rw [h2] at hmp; simp at hmp
        · injection h1 with h1; exact ⟨g, h1, h2, h3.lt⟩
      have hmc := hBm.2.1
      have hcm := hBm.2.2.1
      unfold maxLen at hcm
      clear hQ hm2 hsha ho hmp
      have HSx := HS.out
      generalize hashed xs = s at *
      have hg := fun j (hj : j < 8) => (hE.1.cell (p := ⟨p, [].length + j, none⟩) hpH).trans (SB.cell HSx j hj)
      have g0 := hg 0 (by omega); have g1 := hg 1 (by omega); have g2 := hg 2 (by omega); have g3 := hg 3 (by omega)
      have g4 := hg 4 (by omega); have g5 := hg 5 (by omega); have g6 := hg 6 (by omega); have g7 := hg 7 (by omega)
      simp only [S8.list, List.getElem_cons_zero, List.getElem_cons_succ, List.length_nil, Nat.zero_add] at g0 g1 g2 g3 g4 g5 g6 g7
      have hKK := fun i (hi : i < 64) => Sb.cK HSx (S8.list_length _) i hi
      have HKK := Lib.hid hKK
      have hE2 := hE.alloc (.cells #[.int .u32 (wd s.a), .int .u32 (wd s.b), .int .u32 (wd s.c), .int .u32 (wd s.d), .int .u32 (wd s.e), .int .u32 (wd s.f), .int .u32 (wd s.g), .int .u32 (wd s.h)] 63)
      have hB2 := hBm.alloc (.cells #[.int .u32 (wd s.a), .int .u32 (wd s.b), .int .u32 (wd s.c), .int .u32 (wd s.d), .int .u32 (wd s.e), .int .u32 (wd s.f), .int .u32 (wd s.g), .int .u32 (wd s.h)] 63)
      have hG2 : SB (wc.alloc (.cells #[.int .u32 (wd s.a), .int .u32 (wd s.b), .int .u32 (wd s.c), .int .u32 (wd s.d), .int .u32 (wd s.e), .int .u32 (wd s.f), .int .u32 (wd s.g), .int .u32 (wd s.h)] 63)) wc.heap.size T8 [] s.list [] := heap_alloc_new wc _
      obtain ⟨gh, hgh⟩ : ∃ gh, gh = wc.heap.size := ⟨_, rfl⟩
      have hHgh : H ≤ gh := by rw [hgh]; exact hE.2
      rw [← hgh] at hG2 hgew
      have HGH := Lib.hid hgh
      clear hgh hKK hg HSx hE hBm
      go_upto_block 4 with fail
      clear g0 g1 g2 g3 g4 g5 g6 g7
      rw [← HGH.out]
      generalize wc.alloc (.cells #[.int .u32 (wd s.a), .int .u32 (wd s.b), .int .u32 (wd s.c), .int .u32 (wd s.d), .int .u32 (wd s.e), .int .u32 (wd s.f), .int .u32 (wd s.g), .int .u32 (wd s.h)] 63) = w4 at *
      go_cut [6] (fun pp wr => pp = .pointer (some ⟨gh, 0, none⟩) ∧ SB wr gh T8 [] (blocks Q s m).list [] ∧ Ext H w wr)
      case first =>
        go_wp2_with fail
        go_loopw [3] (fun v wr => ∃ q o L C, q ≤ Q ∧ v = .slice (some ⟨ge, o, none⟩) L C ∧ Hid (L = 64 * (Q - q)) ∧ Bs wr (some ⟨ge, o, none⟩) L C (m.drop (64 * q)) ∧ SB wr gh T8 [] (blocks q s m).list [] ∧ Ext H w wr) (fun v _ => lenOfS v)
        case atStart => exact ⟨0, 0, _, _, by omega, rfl, Lib.hid (by omega), hB2, hG2, hE2⟩
        case round =>
          obtain ⟨q, o, L, C, hq, rfl, HL, hB, hG, hE⟩ := hrel
          clear hB2 hG2 hE2
          by_cases hlt : q < Q
          · have hL64 : 64 ≤ L := by have := HL.out; omega
            have hLC := hB.2.1
            have hCm := hB.2.2.1
            unfold maxLen at hCm
            have c1 : (64 : Int) ≤ (L : Int) := by omega
            have c2 : (64 : Int) ≤ (C : Int) := by omega
            have hBt := hB.take (k := 64) hL64
            obtain ⟨o2, hoi, hYo⟩ : ∃ o2, (if C = 64 then (some ⟨ge, o, none⟩ : Option Addr) else some ⟨ge, o + 64, none⟩) = some ⟨ge, o2, none⟩ ∧ ∀ W, Chg (fun i => i = gh) wr W → Bs W (some ⟨ge, o2, none⟩) (L - 64) (C - 64) ((m.drop (64 * q)).drop 64) := by
              by_cases hcD : C = 64
              · exact ⟨o, by rw [if_pos hcD], fun W hC => (hB.none_left _ (by omega) (by omega)).chg hC (fun h => by omega)⟩
              · exact ⟨o + 64, by rw [if_neg hcD], fun W hC => (hB.off hL64).chg hC (fun _ ad had e => by cases had; exact absurd e (by show ¬ ge = gh; omega))⟩
            have HYO := Lib.hid hYo
            have HT := Lib.hid (fun W (hb : Below wr.heap.size wr W) => turn_any gh T8 [] [] (blocks q s m) p 8 ge o 64 C ((m.drop (64 * q)).take 64) W (SB.below hG hb) (fun i hi => ((hE.step hb).1.cell (p := ⟨p, 8 + i, none⟩) hpH).trans (HKK.out i hi)) (hBt.below hb) (Nat.le_refl _))
            clear hYo hBt hB
            go_upto_region 12 with fail
            refine wp_tailb 5 (by kernel_rfl) (by kernel_rfl) rfl ?_
            simp only [List.take_succ_cons, List.take_zero, List.drop_succ_cons, List.drop_zero, List.map_cons, List.map_nil, bare]
            repeat still_step
            refine wpStill_nil ?_
            go_wp2_with fail
            refine (HT.out _ (Below.refl _ _).drew).mono ?_
            rintro e w5 ⟨rfl, hS5, hC5⟩
            rw [comp_take] at hS5
            have hC6 := (Chg.refl (fun i => i = gh) wr).drew.trans hC5 (fun _ _ h => h)
            have hB5 := HYO.out _ hC6
            have hE5 := hE.upto (hC6.below hE.2 (fun k _ e => by rw [e]; exact hHgh))
            have hbl : blocks (q + 1) s m = comp (blocks q s m) (m.drop (64 * q)) := by rw [blocks_add, blocks_one]
            rw [← hbl] at hS5
            rw [List.drop_drop] at hB5
            have hq1 : q + 1 ≤ Q := hlt
            clear hbl HT HYO hC5 hC6 hE hG hLC hCm hlt hq
            go_wp2_with fail
            go_roundw
            case rel => exact ⟨q + 1, o2, L - 64, C - 64, hq1, rfl, Lib.hid (by have := HL.out; omega), hB5, hS5, hE5⟩
            case measure => simp [lenOfS]; omega
          · obtain rfl : q = Q := by omega
            have hL0 : L = 0 := by have := HL.out; omega
            subst hL0
            go_wp2_with fail
            go_meet
            exact ⟨rfl, hG, hE⟩
      case rest =>
        obtain ⟨rfl, hG, hE⟩ := hcut
        clear hB2 hG2 hE2
        have hsh := HSHA.out
        generalize blocks Q s m = u at *
        have g0 := SB.at00 hG 0 u.a rfl; have g1 := SB.at00 hG 1 u.b rfl; have g2 := SB.at00 hG 2 u.c rfl; have g3 := SB.at00 hG 3 u.d rfl
        have g4 := SB.at00 hG 4 u.e rfl; have g5 := SB.at00 hG 5 u.f rfl; have g6 := SB.at00 hG 6 u.g rfl; have g7 := SB.at00 hG 7 u.h rfl
        have hghw := SB.lt hG
        have HSHA := Lib.hid hsh
        clear hG hsh hS HS HSH HKK HGH hgew
        have hmk : ∀ W : World, (Instr.makeSlice 23 (.int .i64 0) (.int .i64 32)).run Try.prog W = .ok (.slice (some ⟨W.heap.size, 0, none⟩) 0 32) (W.alloc (.cells (madeCells #[.int .u8 0] 32) TB)) := fun W => by kernel_rfl
        have hE2 := hE.alloc (.cells (madeCells #[.int .u8 0] 32) TB)
        have hO2 : Own (wc.alloc (.cells (madeCells #[.int .u8 0] 32) TB)) H (.slice (some ⟨wc.heap.size, 0, none⟩) 0 32) [] :=
          Own.of_row (xs := []) (Row.made wc _ 0 32 [] (by simp [madeCells]) rfl (by omega) (by simp [maxLen]) rfl) hE.2
        go_upto_block 6 with fail
        clear hmk g0 g1 g2 g3 g4 g5 g6 g7 hghw hE
        generalize wc.alloc (.cells (madeCells #[.int .u8 0] 32) TB) = w6 at *
        go_wp2_with fail
        go_loopw [7, 59] (fun v i wr => ∃ k : Nat, k ≤ 8 ∧ i = .int .i64 k ∧ Ext H w wr ∧ Own wr H v (u.list.map wbytes |>.take k).flatten) (fun _ i _ => 8 - (intOf i).toNat)
        case atStart => exact ⟨0, by omega, rfl, hE2, hO2⟩
        case round =>
          obtain ⟨k, hk, rfl, hE3, hO3⟩ := hrel
          clear hE2 hO2
          by_cases hlt : k < 8
          · rcases (show k = 0 ∨ k = 1 ∨ k = 2 ∨ k = 3 ∨ k = 4 ∨ k = 5 ∨ k = 6 ∨ k = 7 by omega) with rfl | rfl | rfl | rfl | rfl | rfl | rfl | rfl
            · have x0 : ∀ w, (Instr.index 63 (.agg #[.int .u32 (wd u.a), .int .u32 (wd u.b), .int .u32 (wd u.c), .int .u32 (wd u.d), .int .u32 (wd u.e), .int .u32 (wd u.f), .int .u32 (wd u.g), .int .u32 (wd u.h)]) (.int .i64 0)).run Try.prog w = .ok (.int .u32 (wd u.a)) w := fun _ => by kernel_rfl
              have hol : ((u.list.map wbytes).take 0).flatten.length ≤ 2000000 := by show 0 ≤ 2000000; omega
              have hE4 := hE3
              have HL : Hid (((u.list.map wbytes).take 0).flatten ++ wbytes u.a = ((u.list.map wbytes).take 1).flatten) := Lib.hid rfl
              generalize ((u.list.map wbytes).take 0).flatten = L at *
              go_wp2_with (at_builtin; refine append_word hE3 hO3 _ _ _ _ u.a rfl rfl rfl rfl hol rfl _ _ rfl rfl rfl ?_)
              intro v7 w7 hE7 hO7 _
              rw [HL.out] at hO7
              clear hE3 hE4 hO3 x0
              go_wp2_with fail
              go_roundw
              case rel => exact ⟨1, by omega, rfl, hE7, hO7⟩
              case measure => simp [intOf]
            · have x1 : ∀ w, (Instr.index 63 (.agg #[.int .u32 (wd u.a), .int .u32 (wd u.b), .int .u32 (wd u.c), .int .u32 (wd u.d), .int .u32 (wd u.e), .int .u32 (wd u.f), .int .u32 (wd u.g), .int .u32 (wd u.h)]) (.int .i64 1)).run Try.prog w = .ok (.int .u32 (wd u.b)) w := fun _ => by kernel_rfl
              have hol : ((u.list.map wbytes).take 1).flatten.length ≤ 2000000 := by show 4 ≤ 2000000; omega
              have hE4 := hE3
              have HL : Hid (((u.list.map wbytes).take 1).flatten ++ wbytes u.b = ((u.list.map wbytes).take 2).flatten) := Lib.hid rfl
              generalize ((u.list.map wbytes).take 1).flatten = L at *
              go_wp2_with (at_builtin; refine append_word hE3 hO3 _ _ _ _ u.b rfl rfl rfl rfl hol rfl _ _ rfl rfl rfl ?_)
              intro v7 w7 hE7 hO7 _
              rw [HL.out] at hO7
              clear hE3 hE4 hO3 x1
              go_wp2_with fail
              go_roundw
              case rel => exact ⟨2, by omega, rfl, hE7, hO7⟩
              case measure => simp [intOf]
            · have x2 : ∀ w, (Instr.index 63 (.agg #[.int .u32 (wd u.a), .int .u32 (wd u.b), .int .u32 (wd u.c), .int .u32 (wd u.d), .int .u32 (wd u.e), .int .u32 (wd u.f), .int .u32 (wd u.g), .int .u32 (wd u.h)]) (.int .i64 2)).run Try.prog w = .ok (.int .u32 (wd u.c)) w := fun _ => by kernel_rfl
              have hol : ((u.list.map wbytes).take 2).flatten.length ≤ 2000000 := by show 8 ≤ 2000000; omega
              have hE4 := hE3
              have HL : Hid (((u.list.map wbytes).take 2).flatten ++ wbytes u.c = ((u.list.map wbytes).take 3).flatten) := Lib.hid rfl
              generalize ((u.list.map wbytes).take 2).flatten = L at *
              go_wp2_with (at_builtin; refine append_word hE3 hO3 _ _ _ _ u.c rfl rfl rfl rfl hol rfl _ _ rfl rfl rfl ?_)
              intro v7 w7 hE7 hO7 _
              rw [HL.out] at hO7
              clear hE3 hE4 hO3 x2
              go_wp2_with fail
              go_roundw
              case rel => exact ⟨3, by omega, rfl, hE7, hO7⟩
              case measure => simp [intOf]
            · have x3 : ∀ w, (Instr.index 63 (.agg #[.int .u32 (wd u.a), .int .u32 (wd u.b), .int .u32 (wd u.c), .int .u32 (wd u.d), .int .u32 (wd u.e), .int .u32 (wd u.f), .int .u32 (wd u.g), .int .u32 (wd u.h)]) (.int .i64 3)).run Try.prog w = .ok (.int .u32 (wd u.d)) w := fun _ => by kernel_rfl
              have hol : ((u.list.map wbytes).take 3).flatten.length ≤ 2000000 := by show 12 ≤ 2000000; omega
              have hE4 := hE3
              have HL : Hid (((u.list.map wbytes).take 3).flatten ++ wbytes u.d = ((u.list.map wbytes).take 4).flatten) := Lib.hid rfl
              generalize ((u.list.map wbytes).take 3).flatten = L at *
              go_wp2_with (at_builtin; refine append_word hE3 hO3 _ _ _ _ u.d rfl rfl rfl rfl hol rfl _ _ rfl rfl rfl ?_)
              intro v7 w7 hE7 hO7 _
              rw [HL.out] at hO7
              clear hE3 hE4 hO3 x3
              go_wp2_with fail
              go_roundw
              case rel => exact ⟨4, by omega, rfl, hE7, hO7⟩
              case measure => simp [intOf]
            · have x4 : ∀ w, (Instr.index 63 (.agg #[.int .u32 (wd u.a), .int .u32 (wd u.b), .int .u32 (wd u.c), .int .u32 (wd u.d), .int .u32 (wd u.e), .int .u32 (wd u.f), .int .u32 (wd u.g), .int .u32 (wd u.h)]) (.int .i64 4)).run Try.prog w = .ok (.int .u32 (wd u.e)) w := fun _ => by kernel_rfl
              have hol : ((u.list.map wbytes).take 4).flatten.length ≤ 2000000 := by show 16 ≤ 2000000; omega
              have hE4 := hE3
              have HL : Hid (((u.list.map wbytes).take 4).flatten ++ wbytes u.e = ((u.list.map wbytes).take 5).flatten) := Lib.hid rfl
              generalize ((u.list.map wbytes).take 4).flatten = L at *
              go_wp2_with (at_builtin; refine append_word hE3 hO3 _ _ _ _ u.e rfl rfl rfl rfl hol rfl _ _ rfl rfl rfl ?_)
              intro v7 w7 hE7 hO7 _
              rw [HL.out] at hO7
              clear hE3 hE4 hO3 x4
              go_wp2_with fail
              go_roundw
              case rel => exact ⟨5, by omega, rfl, hE7, hO7⟩
              case measure => simp [intOf]
            · have x5 : ∀ w, (Instr.index 63 (.agg #[.int .u32 (wd u.a), .int .u32 (wd u.b), .int .u32 (wd u.c), .int .u32 (wd u.d), .int .u32 (wd u.e), .int .u32 (wd u.f), .int .u32 (wd u.g), .int .u32 (wd u.h)]) (.int .i64 5)).run Try.prog w = .ok (.int .u32 (wd u.f)) w := fun _ => by kernel_rfl
              have hol : ((u.list.map wbytes).take 5).flatten.length ≤ 2000000 := by show 20 ≤ 2000000; omega
              have hE4 := hE3
              have HL : Hid (((u.list.map wbytes).take 5).flatten ++ wbytes u.f = ((u.list.map wbytes).take 6).flatten) := Lib.hid rfl
              generalize ((u.list.map wbytes).take 5).flatten = L at *
              go_wp2_with (at_builtin; refine append_word hE3 hO3 _ _ _ _ u.f rfl rfl rfl rfl hol rfl _ _ rfl rfl rfl ?_)
              intro v7 w7 hE7 hO7 _
              rw [HL.out] at hO7
              clear hE3 hE4 hO3 x5
              go_wp2_with fail
              go_roundw
              case rel => exact ⟨6, by omega, rfl, hE7, hO7⟩
              case measure => simp [intOf]
            · have x6 : ∀ w, (Instr.index 63 (.agg #[.int .u32 (wd u.a), .int .u32 (wd u.b), .int .u32 (wd u.c), .int .u32 (wd u.d), .int .u32 (wd u.e), .int .u32 (wd u.f), .int .u32 (wd u.g), .int .u32 (wd u.h)]) (.int .i64 6)).run Try.prog w = .ok (.int .u32 (wd u.g)) w := fun _ => by kernel_rfl
              have hol : ((u.list.map wbytes).take 6).flatten.length ≤ 2000000 := by show 24 ≤ 2000000; omega
              have hE4 := hE3
              have HL : Hid (((u.list.map wbytes).take 6).flatten ++ wbytes u.g = ((u.list.map wbytes).take 7).flatten) := Lib.hid rfl
              generalize ((u.list.map wbytes).take 6).flatten = L at *
              go_wp2_with (at_builtin; refine append_word hE3 hO3 _ _ _ _ u.g rfl rfl rfl rfl hol rfl _ _ rfl rfl rfl ?_)
              intro v7 w7 hE7 hO7 _
              rw [HL.out] at hO7
              clear hE3 hE4 hO3 x6
              go_wp2_with fail
              go_roundw
              case rel => exact ⟨7, by omega, rfl, hE7, hO7⟩
              case measure => simp [intOf]
            · have x7 : ∀ w, (Instr.index 63 (.agg #[.int .u32 (wd u.a), .int .u32 (wd u.b), .int .u32 (wd u.c), .int .u32 (wd u.d), .int .u32 (wd u.e), .int .u32 (wd u.f), .int .u32 (wd u.g), .int .u32 (wd u.h)]) (.int .i64 7)).run Try.prog w = .ok (.int .u32 (wd u.h)) w := fun _ => by kernel_rfl
              have hol : ((u.list.map wbytes).take 7).flatten.length ≤ 2000000 := by show 28 ≤ 2000000; omega
              have hE4 := hE3
              have HL : Hid (((u.list.map wbytes).take 7).flatten ++ wbytes u.h = ((u.list.map wbytes).take 8).flatten) := Lib.hid rfl
              generalize ((u.list.map wbytes).take 7).flatten = L at *
              go_wp2_with (at_builtin; refine append_word hE3 hO3 _ _ _ _ u.h rfl rfl rfl rfl hol rfl _ _ rfl rfl rfl ?_)
              intro v7 w7 hE7 hO7 _
              rw [HL.out] at hO7
              clear hE3 hE4 hO3 x7
              go_wp2_with fail
              go_roundw
              case rel => exact ⟨8, by omega, rfl, hE7, hO7⟩
              case measure => simp [intOf]
          · obtain rfl : k = 8 := by omega
            rw [show ((u.list.map wbytes).take 8).flatten = u.bytes from rfl, ← HSHA.out] at hO3
            go_wp2_with fail
            go_ret
            exact ⟨_, rfl, hO3, hE3.1⟩
end Go.Proofs.Ytdglhonogopciaa
