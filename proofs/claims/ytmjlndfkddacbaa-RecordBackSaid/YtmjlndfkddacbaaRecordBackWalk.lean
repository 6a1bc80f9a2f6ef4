/- The walk of RecordBack. -/
import Derived.Test.YtmjlndfkddacbaaRecordRows
import Derived.Test.YtmjlndfkddacbaaLaw16
import Derived.Test.YtmjlndfkddacbaaWithin
import Derived.Test.YtmjlndfkddacbaaCut
import Derived.Test.YtmjlndfkddacbaaTools
import Derived.Deep.DeepCutAuto
import Derived.Deep.CutBlock
namespace Go.Proofs.Ytmjlndfkddacbaa
open Go.RowKit

/-- all but the first k of a row at a known place -/
theorem Bs.from {w : World} {b off len cap : Nat} {xs : List UInt8} (h : Bs w (some ⟨b, off, none⟩) len cap xs) {k : Nat} (hk : k ≤ len) : Bs w (some ⟨b, off + k, none⟩) (len - k) (cap - k) (xs.drop k) := by
  obtain ⟨h1, h2, h3, h4⟩ := h
  refine ⟨by simp; omega, by omega, by omega, ?_⟩
  rcases h4 with h4 | ⟨b', off', h4, h5, h6⟩
  · exact .inl (by omega)
  · injection h4 with h4; injection h4 with e1 e2; subst e1 e2
    exact .inr ⟨b, off + k, rfl, h5, fun i hi => by simp at hi; rw [Nat.add_assoc, h6 (k + i) (by omega)]; simp⟩
theorem set_mid (pre xs zs : List UInt8) (n : Nat) (y : UInt8) (hn : n < xs.length) : (((pre ++ (xs ++ zs)).set (pre.length + n) y).drop pre.length).take xs.length = xs.set n y := by
  rw [List.set_append_right _ _ (by omega), List.drop_left, Nat.add_sub_cancel_left, List.set_append_left _ _ hn, List.take_left' (by simp)]
theorem get_mid (pre xs zs : List UInt8) (n : Nat) (hn : n < xs.length) (h : pre.length + n < (pre ++ (xs ++ zs)).length) : (pre ++ (xs ++ zs))[pre.length + n] = xs[n] := by
  rw [List.getElem_append_right (by omega)]
  simp [List.getElem_append_left, hn]
theorem Held.start (w : World) : Held w w.heap.size (.slice none 0 0) (.slice none 0 0) (.slice none 0 0) [] w :=
  ⟨Ext.refl w, Own.nil _ _, World.ownsRow_nil _ _ _ _, World.ownsRow_nil _ _ _ _, fun r hr => by simp at hr⟩

theorem Held.set {w W : World} {H : Nat} {b s e : Value} {rs : List Ac} (h : Held w H b s e rs W) {X o : Nat} (hX : H ≤ X) (hl : (∀ q, b.ownBlock = some q → q < X) ∧ (∀ q, s.ownBlock = some q → q < X) ∧ (∀ q, e.ownBlock = some q → q < X)) (u : Value) :
    Held w H b s e rs (W.setCell ⟨X, o, none⟩ u) :=
  ⟨h.ext.setCell (p := ⟨X, o, none⟩) hX u, ownsRow_setCell h.b _ _ (fun hq => by have := hl.1 _ hq; simp at this), ownsRow_setCell h.s _ _ (fun hq => by have := hl.2.1 _ hq; simp at this), ownsRow_setCell h.e _ _ (fun hq => by have := hl.2.2 _ hq; simp at this), h.ok⟩

set_option maxHeartbeats 1000000 in
set_option maxRecDepth 100000 in
theorem RecordBack_walk (v0 : Value) (v1 : Value) (v2 : Value) (v3 : Value) (w : World) (h0 : Arg Try.prog w 37 v0) (h1 : Arg Try.prog w 3 v1) (h2 : Arg Try.prog w 3 v2) (h3 : Arg Try.prog w 5 v3) :
    Calls Try.prog 5 #[v0, v1, v2, v3] w fun e w' => e = .returned (.bool true) ∧ Below w.heap.size w w' := by
  obtain ⟨a, len, cap, ls, rfl, hR⟩ := h0.recs
  obtain ⟨which, rfl, _⟩ := h1.int Try.underlying3
  obtain ⟨at_, rfl, _⟩ := h2.int Try.underlying3
  obtain ⟨z, rfl, hz⟩ := h3.int Try.underlying5
  obtain ⟨t, rfl⟩ : ∃ t : UInt8, (t.toNat : Int) = z := ⟨byteOf z, byteOf_toNat hz⟩
  clear h0 h1 h2 h3 hz
  obtain ⟨H, hH⟩ : ∃ H, H = w.heap.size := ⟨_, rfl⟩
  have HH := Lib.hid hH
  have hst := Held.start w
  rw [← hH] at hst ⊢
  obtain ⟨gb, go, HAT⟩ := hR.at
  have hlen : ls.length = len := hR.1
  have hlc : len ≤ maxLen := Nat.le_trans hR.2.1 hR.2.2.1
  unfold maxLen at hlc
  have HST := Lib.hid hst
  have HL := Lib.hid hlen
  clear hR hH hst hlen
  go_enter Try.func5, Try.ntmps5
  go_upto_block 0 with fail
  go_cut [9, 10, 11] (fun b s e wr => ∃ rs : List Ac, rs.length ≤ 12 ∧ Held w H b s e rs wr)
  case first =>
    go_wp2_with fail
    go_loopw [9, 10, 11, 12] (fun b s e i wr => ∃ (k : Nat) (rs : List Ac), k ≤ len ∧ k ≤ 12 ∧ i = .int .i64 k ∧ rs.length ≤ k ∧ Held w H b s e rs wr) (fun _ _ _ i _ => 12 - (intOf i).toNat)
    case atStart => exact ⟨0, [], Nat.zero_le _, Nat.zero_le _, rfl, Nat.zero_le _, HST.out⟩
    case round =>
      obtain ⟨k, rs, hkl, hk12, rfl, hrs, hh⟩ := hrel
      clear HST
      by_cases hlt : k < len ∧ k < 12
      · obtain ⟨hlt, hlt2⟩ := hlt
        obtain ⟨rfl, hgb, hcells⟩ := HAT.out (by omega)
        have hc := hcells k (by rw [HL.out]; omega)
        clear hcells
        have hkl2 : k < ls.length := by rw [HL.out]; omega
        generalize ls[k]'hkl2 = r at hc
        obtain ⟨rk, rq, ra, rm, rcap, rys⟩ := r
        obtain ⟨hc0, hc1, hc2, hq, hB⟩ := hc
        simp only at hc0 hc1 hc2 hq hB
        have hBw := hB
        have hBwr := hB.below (by rw [← HH.out]; exact hh.ext.1)
        have hx := hh.ext.1
        have c0 := (hx.cell (p := ⟨gb, go + k * 3, none⟩) (by rw [HH.out]; exact hgb)).trans hc0
        have c1 := (hx.cell (p := ⟨gb, go + k * 3 + 1, none⟩) (by rw [HH.out]; exact hgb)).trans hc1
        have c2 := (hx.cell (p := ⟨gb, go + k * 3 + 2, none⟩) (by rw [HH.out]; exact hgb)).trans hc2
        clear hc0 hc1 hc2
        have e1 : (0 : Int) ≤ (k : Int) := by omega
        have e2 : (k : Int) < (len : Int) := by omega
        have e3 : (k : Int) < 12 := by omega
        go_upto_region 8 with fail
        have hE0 := hh.ext.alloc (.cells #[.int .i64 rk, .int .u64 (rq : Int), .slice ra rm rcap] 27)
        have hX0 := heap_alloc_new wr (.cells #[.int .i64 rk, .int .u64 (rq : Int), .slice ra rm rcap] 27)
        have hs0 := size_alloc wr (.cells #[.int .i64 rk, .int .u64 (rq : Int), .slice ra rm rcap] 27)
        have hh0 := hh.alloc (.cells #[.int .i64 rk, .int .u64 (rq : Int), .slice ra rm rcap] 27)
        have hB0 := hBwr.alloc (.cells #[.int .i64 rk, .int .u64 (rq : Int), .slice ra rm rcap] 27)
        obtain ⟨X, hX⟩ : ∃ X, X = wr.heap.size := ⟨_, rfl⟩
        have hHX : H ≤ X := by rw [hX]; exact hh.ext.2
        have hbX : ∀ q, u9.ownBlock = some q → q < X := fun q hq => by rw [hX]; exact (World.ownsRow.lt hh.b q hq).2
        have hsX : ∀ q, u10.ownBlock = some q → q < X := fun q hq => by rw [hX]; exact (World.ownsRow.lt hh.s q hq).2
        have heX : ∀ q, u11.ownBlock = some q → q < X := fun q hq => by rw [hX]; exact (World.ownsRow.lt hh.e q hq).2
        have HXL := Lib.hid (And.intro hbX (And.intro hsX heX))
        rw [← hX] at hX0 hs0 ⊢
        have HX0 := Lib.hid hX0
        clear hh hBwr hB hX hX0 c0 c1 c2 hbX hsX heX hx
        generalize wr.alloc (.cells #[.int .i64 rk, .int .u64 (rq : Int), .slice ra rm rcap] 27) = w0 at *
        obtain ⟨c0, c1, c2, f0, f1, f2⟩ := three_cells HX0.out
        have hrm := hB0.2.1
        have HCut := Lib.hid (fun W => cut_any 80 ra rm rcap W hrm (by omega))
        have hB0w := hBw
        have hmrm : min rm 80 ≤ rm := Nat.min_le_left _ _
        have hm80 : min rm 80 ≤ 80 := Nat.min_le_right _ _
        generalize min rm 80 = m at *
        have hB0w := hB0w.take (k := m) hmrm
        generalize rys.take m = ys at *
        go_wp2_with fail
        refine (HCut.out _).mono ?_
        rintro e w1 ⟨rfl, rfl⟩
        go_upto_region 9 with fail
        have hX1 := three_set2 (y := .slice ra m rcap) HX0.out
        have hh1 := hh0.set (o := 2) hHX HXL.out (.slice ra m rcap)
        have hB1 : Bs (w0.setCell ⟨X, 2, none⟩ (.slice ra m rcap)) ra m rcap ys := hB0w.below (by rw [← HH.out]; exact hh1.ext.1)
        have hs1 : X < (w0.setCell ⟨X, 2, none⟩ (.slice ra m rcap)).heap.size := by simpa [World.setCell] using hs0
        have HX1 := Lib.hid hX1
        have HBW := Lib.hid hB0w
        clear hX1 c0 c1 c2 f0 f1 f2 hh0 hB0 hBw hE0 HX0 hs0 hB0w
        generalize w0.setCell ⟨X, 2, none⟩ (.slice ra m rcap) = w1 at *
        obtain ⟨c0, c1, c2, f0, f1, f2⟩ := three_cells HX1.out
        by_cases hok : RecOk rk rq m
        · obtain ⟨K, rfl⟩ : ∃ K : Nat, rk = (K : Int) := by
            have := hok.2.2
            exact ⟨rk.toNat, by omega⟩
          have HE := Lib.hid (recenc_ok K rq ra m rcap ys w1 hB1 hok)
          have HNL : Hid ((recBytes K rq ys).length = 15 + m) := Lib.hid (by rw [recBytes_length _ _ _ (by have := hB1.1; omega), hB1.1])
          have HOK := Lib.hid hok
          clear hok
          go_wp2_with fail
          refine HE.out.mono ?_
          rintro e w2 ⟨v2, rfl, ho2, hb2⟩
          obtain ⟨N, hN⟩ : ∃ N, N = 15 + m := ⟨_, rfl⟩
          obtain ⟨a2, k2, rfl, hZ2⟩ := ho2.bsn (HNL.out.trans hN.symm)
          have hh2 := hh1.step hb2
          have hX2 := (hb2.block X hs1).trans HX1.out
          have hs2 := Nat.lt_of_lt_of_le hs1 hb2.size
          have HX2 := Lib.hid hX2
          have hN1 : 15 ≤ N := by omega
          have hN2 : N ≤ 100 := by omega
          have HN := Lib.hid hN
          have hB2 := hB1.below hb2
          clear c0 c1 c2 f0 f1 f2 hX2 hs1 hb2 hh1 ho2 hB1 HE HX1 hN
          obtain ⟨c0, c1, c2, f0, f1, f2⟩ := three_cells HX2.out
          go_upto_region 13 with fail
          obtain ⟨r, hr⟩ : ∃ r : Ac, r = ⟨K, rq, ra, m, rcap, ys⟩ := ⟨_, rfl⟩
          have hrok : r.Ok w := by subst hr; exact ⟨HOK.out, hm80, HBW.out⟩
          have hZr : Bs w2 a2 N k2 r.bytes := by subst hr; exact hZ2
          have hrc : r.cells = [.int .i64 (K : Int), .int .u64 (rq : Int), .slice ra m rcap] := by subst hr; rfl
          have HR := Lib.hid (And.intro hrok hrc)
          have hbne : u9.ownBlock ≠ some X := fun h => by have := HXL.out.1 X h; omega
          have HBN := Lib.hid hbne
          have hr12 : rs.length ≤ 12 := by omega
          have HOKS := Lib.hid hh2.ok
          clear hrc hr hB2 HBW HOK hZ2 hbne
          go_wp2_with (at_builtin; refine append_b hh2 r hrok rfl _ _ rfl rfl a2 N k2 rfl hZr hr12 ?_)
          intro b3 w3 hE3 hB3 hs3 he3 hb3 hblk
          have hX3 := (hblk X hs2 HBN.out).trans HX2.out
          have hsz3 : X < w3.heap.size := (Array.getElem?_eq_some_iff.1 hX3).1
          have HX3 := Lib.hid hX3
          clear hblk hX3 c0 c1 c2 f0 f1 f2 hh2 hZr hs2 hb3
          obtain ⟨c0, c1, c2, f0, f1, f2⟩ := three_cells HX3.out
          go_wp2_with (at_builtin; refine append_one (W := w3) 37 TR Try.underlying37 _ infoTR rfl (by decide) hs3 hE3.2 [.int .i64 (K : Int), .int .u64 (rq : Int), .slice ra m rcap] rfl ?_ (by omega) (by omega) rfl _ _ rfl rfl rfl ?_)
          · intro u hu
            simp at hu
            rcases hu with rfl | rfl | rfl <;> rfl
          intro s4 w4 hs4 hg4
          have hE4 := (hE3.alloc (.cells #[.int .i64 (K : Int), .int .u64 (rq : Int), .slice ra m rcap] TR)).grown hg4 (fun q hq => (World.ownsRow.lt hs3 q hq).1)
          have hB4 : Own w4 H b3 (flat rs ++ r.bytes) := (hB3.alloc _).kept hg4 (ownsRow_apart hB3 hs3 (by decide))
          have he4 := (he3.alloc (.cells #[.int .i64 (K : Int), .int .u64 (rq : Int), .slice ra m rcap] TR)).kept hg4 (ownsRow_apart he3 hs3 (by decide))
          obtain ⟨F, hF⟩ : ∃ F, F = (flat rs ++ r.bytes).length := ⟨_, rfl⟩
          obtain ⟨ab, cb, rfl, _⟩ := hB4.bsn hF.symm
          have HF := Lib.hid hF
          clear hF hB3 hs3 he3 hE3 hg4 c0 c1 c2 f0 f1 f2 hsz3
          go_wp2_with (at_builtin; refine append_one (W := w4) 22 TI Try.underlying22 _ infoTI rfl (by decide) he4 hE4.2 [.int .i64 (F : Int)] rfl ?_ (by omega) (by omega) rfl _ _ rfl rfl rfl ?_)
          · intro u hu
            simp at hu
            subst hu; rfl
          intro e5 w5 he5 hg5
          have hE5 := (hE4.alloc (.cells #[.int .i64 (F : Int)] TI)).grown hg5 (fun q hq => (World.ownsRow.lt he4 q hq).1)
          have hB5 : Own w5 H (.slice ab F cb) (flat rs ++ r.bytes) := (hB4.alloc _).kept hg5 (ownsRow_apart hB4 he4 (by decide))
          have hs5 := (hs4.alloc (.cells #[.int .i64 (F : Int)] TI)).kept hg5 (ownsRow_apart hs4 he4 (by decide))
          have hh5 : Held w H (.slice ab F cb) s4 e5 (rs ++ [r]) w5 := by
            refine ⟨hE5, ?_, ?_, ?_, ?_⟩
            · rw [flat_snoc]; exact hB5
            · rw [acCells_snoc, HR.out.2, List.length_append]; exact hs5
            · rw [endsC_snoc, ← HF.out, List.length_append]; exact he5
            · intro x hx
              rcases List.mem_append.1 hx with hx | hx
              · exact HOKS.out x hx
              · rw [List.mem_singleton] at hx; subst hx; exact HR.out.1
          have hl5 : (rs ++ [r]).length ≤ k + 1 := by rw [List.length_append]; simp; omega
          clear hE4 hB4 he4 hE5 hB5 hs5 he5 hs4 hg5
          go_wp2_with fail
          go_roundw
          case rel => exact ⟨k + 1, rs ++ [r], by omega, by omega, by go_num, hl5, hh5⟩
          case measure => simp [intOf]; omega
        · have HE := Lib.hid (recenc_no rk rq ra m rcap w1 hok)
          clear hok
          go_wp2_with fail
          refine HE.out.mono ?_
          rintro e w2 ⟨rfl, hb2⟩
          have hh2 := hh1.step hb2
          clear hh1 c0 c1 c2 f0 f1 f2 hs1 hB1 HE
          go_wp2_with fail
          go_roundw
          case rel => exact ⟨k + 1, rs, by omega, by omega, by go_num, by omega, hh2⟩
          case measure => simp [intOf]; omega
      · have hle : rs.length ≤ 12 := by omega
        go_wp2_with fail
        all_goals go_meet
        all_goals exact ⟨rs, hle, hh⟩
  case rest =>
    obtain ⟨rs, hr12, hh⟩ := hcut
    clear HST HAT HL hlc
    obtain ⟨F, R, ab, cb, asx, cs, ae, ce, hF, hR, rfl, rfl, rfl⟩ := hh.shape
    have hFB : F ≤ 12 * 95 := by rw [hF]; have := hh.le; omega
    have hRB : R ≤ 12 := by omega
    have HFR := Lib.hid (And.intro hF hR)
    have hcb := (hh.bytes hF).2.1
    have hcb2 := (hh.bytes hF).2.2.1
    unfold maxLen at hcb2
    clear hF hR
    go_upto_block 2 with fail
    go_cut [16, 9, 10, 11] (fun _ b s e wr => b = .slice ab F cb ∧ s = .slice asx R cs ∧ e = .slice ae R ce ∧ Held w H (.slice ab F cb) (.slice asx R cs) (.slice ae R ce) rs wr)
    case first =>
      go_wp2_with fail
      go_loopw [16, 17] (fun f i wr => ∃ k : Nat, k ≤ R ∧ i = .int .i64 k ∧ f = .int .i64 (upTo rs k : Nat) ∧ Held w H (.slice ab F cb) (.slice asx R cs) (.slice ae R ce) rs wr) (fun _ i _ => R - (intOf i).toNat)
      case atStart => exact ⟨0, Nat.zero_le _, rfl, rfl, hh⟩
      case round =>
        obtain ⟨k, hkR, rfl, rfl, hk⟩ := hrel
        clear hh
        by_cases hlt : k < R
        · obtain ⟨gB, gS, gE, hab, hae, has, hHgb, hbs, hbe⟩ := hk.blocks (by rw [← HFR.out.2]; omega)
          subst hab hae has
          have hkl : k < rs.length := by rw [← HFR.out.2]; exact hlt
          have hat := hk.at HFR.out.2 k hkl
          have hen := hk.ends HFR.out.2 k hkl
          have hus := upTo_succ rs k hkl
          have hfd := flat_drop rs k hkl
          have hul := upTo_le rs (k + 1)
          rw [← HFR.out.1] at hul
          have hok := hk.ok _ (List.getElem_mem hkl)
          have hBs := (hk.bytes HFR.out.1).from (k := upTo rs k) (by rw [hus] at hul; omega)
          rw [hfd] at hBs
          rw [hok.length] at hus
          generalize rs[k] = r at *
          generalize hU2 : upTo rs (k + 1) = U2 at *
          have HU2 := Lib.hid hU2
          clear hU2
          generalize upTo rs k = U at *
          generalize flat (rs.drop (k + 1)) = zs at *
          rw [Nat.zero_add] at hBs
          obtain ⟨K, rq, ra, m, rcap, ys⟩ := r
          simp only [Ac.bytes] at hBs hat hus
          obtain ⟨hrok, hm80, hBr⟩ := hok
          simp only at hrok hm80 hBr
          have hW := recWhy_ok K rq ys zs (by have := hBr.1; rw [this]; exact hrok)
          have HBR := Lib.hid (hBr.below (by rw [← HH.out]; exact hk.ext.1))
          have HD := Lib.hid (recdec_any _ _ _ _ _ hBs (by unfold big; omega))
          have HW := Lib.hid (And.intro hBr.1 hW)
          have HUS := Lib.hid hus
          have HAT := Lib.hid hat
          have HEN := Lib.hid hen
          have u1 : (0 : Int) ≤ (U : Int) := by omega
          have u2 : (U : Int) ≤ (F : Int) := by omega
          have u3 : U ≤ F := by omega
          have u4 : U < cb := by omega
          clear hW hBr hrok hfd hus hat hen hBs
          go_wp2_with fail
          refine HD.out.mono ?_
          rintro e w2 ⟨hcase, hb2⟩
          obtain ⟨v2, rfl, ho2⟩ : ∃ v, e = .returned (recV K rq v ((15 + m : Nat) : Int) 0) ∧ Own w2 wr.heap.size v ys := by
            obtain ⟨p0, p1, p2, p3, p4, p5⟩ := HW.out
            rcases hcase with ⟨_, v, h1, h2⟩ | ⟨h1, _⟩
            · rw [p2, p3, p5, p0] at h1
              rw [p4] at h2
              refine ⟨v, ?_, h2⟩
              rw [h1]
              congr 2
              omega
            · exact absurd p1 h1
          obtain ⟨a2, k2, rfl, hY2⟩ := ho2.bsn HW.out.1
          unfold recV
          have hh2 := hk.step hb2
          have D := cell_new w2 #[.int .i64 (K : Int), .int .u64 (rq : Int), .slice a2 m k2] 27
          have d0 := D 0; have d1 := D 1; have d2 := D 2
          simp only [List.getElem?_toArray, List.getElem?_cons_zero, List.getElem?_cons_succ] at d0 d1 d2
          have hb3 := hb2.alloc hb2.size (.cells #[.int .i64 (K : Int), .int .u64 (rq : Int), .slice a2 m k2] 27)
          have hh3 := hh2.alloc (.cells #[.int .i64 (K : Int), .int .u64 (rq : Int), .slice a2 m k2] 27)
          have hY3 := hY2.alloc (.cells #[.int .i64 (K : Int), .int .u64 (rq : Int), .slice a2 m k2] 27)
          have hsD := size_alloc w2 (.cells #[.int .i64 (K : Int), .int .u64 (rq : Int), .slice a2 m k2] 27)
          have hR3 := HBR.out.below hb3
          obtain ⟨D9, hD9⟩ : ∃ D9, D9 = w2.heap.size := ⟨_, rfl⟩
          rw [← hD9] at d0 d1 d2 hsD
          have HD9 := Lib.hid hD9
          obtain ⟨q0, q1, q2⟩ := HAT.out
          have qS := World.block_lt_of_cell? wr _ q0
          have q3 := HEN.out
          have qE := World.block_lt_of_cell? wr _ q3
          have q0 := (hb3.cell (p := ⟨gS, k * 3, none⟩) qS).trans q0
          have q1 := (hb3.cell (p := ⟨gS, k * 3 + 1, none⟩) qS).trans q1
          have q2 := (hb3.cell (p := ⟨gS, k * 3 + 2, none⟩) qS).trans q2
          have q3 := (hb3.cell (p := ⟨gE, k, none⟩) qE).trans q3
          have qS := Nat.lt_of_lt_of_le qS hb3.size
          have qE := Nat.lt_of_lt_of_le qE hb3.size
          have hwr : IntKind.i64.wrap ((U : Int) + (15 + (m : Int))) = (U2 : Int) := by have := HUS.out; rw [IntWalk.i64_in _ (by omega)]; omega
          have z1 : ((U2 : Int) != (U2 : Int)) = false := by simp
          have z2 : ((K : Int) != (K : Int)) = false := by simp
          have z3 : ((rq : Int) != (rq : Int)) = false := by simp
          have z4 : ((0 : Int) != 0) = false := by decide
          have e1 : (0 : Int) ≤ (k : Int) := by omega
          have e2 : (k : Int) < (R : Int) := by omega
          have z5 : (!(strOf ys).toList == (strOf ys).toList) = false := by simp
          clear hcase ho2 HD HW hk hD9 hY2 hh2 hb3 hb2 HAT HEN HBR
          go_upto_region 21 with fail
          rw [← HD9.out]
          generalize w2.alloc (.cells #[.int .i64 (K : Int), .int .u64 (rq : Int), .slice a2 m k2] 27) = w3 at *
          have s1 : ∀ n, (convert 25 9 (.slice a2 m k2)).run Try.prog (World.over w3 n) = .ok (.string (strOf ys)) (World.over w3 n) := fun n => run_string (hY3.over n)
          have s2 : ∀ n, (convert 25 9 (.slice ra m rcap)).run Try.prog (World.over w3 n) = .ok (.string (strOf ys)) (World.over w3 n) := fun n => run_string (hR3.over n)
          refine wp_region_over (by kernel_rfl) (by kernel_rfl) ?_
          repeat (go_big_quiet_step (fail))
          refine wpQuiet_nil ?_
          rintro _ ⟨nq, rfl⟩
          go_wp2_with fail
          go_roundw
          case rel => exact ⟨k + 1, by omega, by go_num, by rw [HU2.out], hh3.step (below_over _ _)⟩
          case measure => simp [intOf]; omega
        · go_wp2_with fail
          go_meet
          exact ⟨rfl, rfl, rfl, hk⟩
    case rest =>
      obtain ⟨rfl, rfl, rfl, hh⟩ := hcut
      by_cases hR0 : R = 0
      · have z1 : ((R : Int) == 0) = true := by simp [hR0]
        clear hR0
        go_wp2_with fail
        refine (rec_known _).mono ?_
        rintro e w1 ⟨rfl, hb⟩
        go_wp2_with fail
        go_ret
        exact ⟨rfl, (hh.ext.step hb).1⟩
      · have z1 : ((R : Int) == 0) = false := by simp [hR0]
        by_cases ht0 : t = 0
        · have z2 : ((t.toNat : Int) == 0) = true := by simp [ht0]
          clear ht0 hR0
          go_wp2_with fail
          refine (rec_known _).mono ?_
          rintro e w1 ⟨rfl, hb⟩
          go_wp2_with fail
          go_ret
          exact ⟨rfl, (hh.ext.step hb).1⟩
        · have z2 : ((t.toNat : Int) == 0) = false := by
            rw [beq_eq_false_iff_ne]; intro h; exact ht0 (UInt8.toNat_inj.1 (by rw [show (0 : UInt8).toNat = 0 from rfl]; omega))
          have hR1 : 1 ≤ R := by omega
          have HT0 := Lib.hid ht0
          clear hR0 ht0
          have hw1 : IntKind.i64.wrap ((R : Int) - 1) = (R : Int) - 1 := IntWalk.i64_in _ (by omega)
          obtain ⟨gB, gS, gE, hab, has, hae, hHgb, hbs, hbe⟩ := hh.blocks (by rw [← HFR.out.2]; omega)
          subst hab hae has
          go_wp2_with fail
          refine (within_any which 0 ((R : Int) - 1) _ (by omega) (by omega) (by omega)).mono ?_
          rintro e wq ⟨rfl, rfl⟩
          have hi := within_bd which 0 ((R : Int) - 1) (by omega)
          generalize within which 0 ((R : Int) - 1) = ii at *
          obtain ⟨k, rfl⟩ : ∃ k : Nat, ii = (k : Int) := ⟨ii.toNat, by omega⟩
          have hkR : k < R := by omega
          have hkl : k < rs.length := by rw [← HFR.out.2]; exact hkR
          have q3 := hh.ends HFR.out.2 k hkl
          have q4 : 0 < k → wc.cell? ⟨gE, k - 1, none⟩ = some (.int .i64 (upTo rs k : Nat)) := fun h0 => by
            have := hh.ends HFR.out.2 (k - 1) (by omega)
            rwa [Nat.sub_add_cancel h0] at this
          have q5 : k = 0 → upTo rs k = 0 := fun h => by subst h; rfl
          have hus := upTo_succ rs k hkl
          have hfs := flat_split rs k hkl
          have hul := upTo_le rs (k + 1)
          rw [← HFR.out.1] at hul
          have hok := hh.ok _ (List.getElem_mem hkl)
          rw [hok.length] at hus
          have hU0 : upTo rs k = (flat (rs.take k)).length := rfl
          generalize flat (rs.take k) = pre at *
          generalize rs[k] = r at *
          generalize upTo rs (k + 1) = U2 at *
          generalize upTo rs k = U at *
          generalize flat (rs.drop (k + 1)) = zs at *
          obtain ⟨K, rq, ra, m, rcap, ys⟩ := r
          simp only [Ac.bytes] at hfs
          obtain ⟨hrok, hm80, hBr⟩ := hok
          simp only at hrok hm80 hBr hus
          have hyl := hBr.1
          obtain ⟨gX, cX, hX1, hX2, hRow⟩ : ∃ g c, (some ⟨gB, 0, none⟩ : Option Addr) = some ⟨g, 0, none⟩ ∧ c = cb ∧ Row wc g c (flat rs) := by
            rcases hh.b.parts with ⟨h1, _⟩ | ⟨g, c, h1, _, h3⟩
            · cases h1
            · injection h1 with e1 e2 e3
              exact ⟨g, c, e1, e3.symm, h3⟩
          injection hX1 with hX1; injection hX1 with hX1
          subst hX1 hX2
          have hE := hh.ext
          have hRW := recWhy_turned K rq ys
          rw [hyl] at hRW
          have HRW := Lib.hid (fun n h1 h2 h3 => hRW n t hrok h1 h2 h3 HT0.out)
          have hRL := recBytes_length K rq ys (by omega)
          rw [hyl] at hRL
          have HFS := Lib.hid (And.intro hfs (And.intro hRL hU0))
          have HUS := Lib.hid hus
          have u1 : U + (15 + m) ≤ F := by omega
          have hEz : gE < wc.heap.size := World.block_lt_of_cell? wc _ q3
          clear hfs hRL hU0 hus hrok hBr hRW hbs hh
          have n1 : (0 : Int) ≤ (k : Int) := by omega
          have n2 : (k : Int) < (R : Int) := by omega
          go_upto_if 142 with fail
          go_cut [16] (fun f wx => f = .int .i64 (U : Nat) ∧ wc = wx)
          case first =>
            by_cases hk0 : 0 < k
            · have q4 := q4 hk0
              have n3 : (0 : Int) ≤ (k : Int) - 1 := by omega
              have n4 : (k : Int) - 1 < (R : Int) := by omega
              clear q5
              go_wp2_with fail
              go_meet
              exact ⟨rfl, rfl⟩
            · obtain rfl : k = 0 := by omega
              have Q5 := Lib.hid (q5 rfl)
              clear q4 q5
              go_wp2_with fail
              go_meet
              exact ⟨by rw [Q5.out]; rfl, rfl⟩
          case rest =>
            obtain ⟨rfl, rfl⟩ := hcut
            clear q4 q5
            have hus1 : U2 ≤ U + (15 + m) := Nat.le_of_eq HUS.out
            have hus2 : U + (15 + m) ≤ U2 := Nat.le_of_eq HUS.out.symm
            go_wp2_with fail
            refine (within_any at_ 0 ((U2 : Int) - (U : Int) - 1) _ (by omega) (by omega) (by omega)).mono ?_
            rintro e wq ⟨rfl, rfl⟩
            have hi := within_bd at_ 0 ((U2 : Int) - (U : Int) - 1) (by omega)
            generalize within at_ 0 ((U2 : Int) - (U : Int) - 1) = jj at *
            obtain ⟨n, rfl⟩ : ∃ n : Nat, jj = (n : Int) := ⟨jj.toNat, by omega⟩
            have hn15 : n < 15 + m := by omega
            clear hus1 hus2
            by_cases h910 : n = 9 ∨ n = 10
            · have z9 : (((n : Int) == 9) = true) ∨ (((n : Int) == 9) = false ∧ ((n : Int) == 10) = true) := by
                rcases h910 with rfl | rfl
                · exact .inl rfl
                · exact .inr ⟨rfl, rfl⟩
              clear h910
              rcases z9 with z9 | ⟨z9, z10⟩
              all_goals
                go_wp2_with fail
                refine (rec_known _).mono ?_
                rintro e w1 ⟨rfl, hb⟩
                go_wp2_with fail
                go_ret
                exact ⟨rfl, (hE.step hb).1⟩
            · have z9 : ((n : Int) == 9) = false := by rw [beq_eq_false_iff_ne]; omega
              have z10 : ((n : Int) == 10) = false := by rw [beq_eq_false_iff_ne]; omega
              obtain ⟨hfs, hrl, hU0⟩ := HFS.out
              have hXn : n < (recBytes K rq ys).length := by rw [hrl]; exact hn15
              have hFl : U + n < (flat rs).length := by rw [← HFR.out.1]; omega
              have hc := hRow.cell (U + n) hFl
              have hgm : (flat rs)[U + n] = (recBytes K rq ys)[n] := by
                subst hU0
                have := get_mid pre (recBytes K rq ys) zs n hXn (by rw [← hfs]; exact hFl)
                rw [← this]
                congr 1
              have hR2 := hRow.set (U + n) ((flat rs)[U + n] ^^^ t)
              have hB2 := (hR2.bs.from (k := U) (by rw [List.length_set]; omega)).take (k := 15 + m) (by rw [List.length_set, ← HFR.out.1]; omega)
              rw [Nat.zero_add, hgm] at hB2
              have hsm : (((flat rs).set (U + n) ((recBytes K rq ys)[n] ^^^ t)).drop U).take (15 + m) = (recBytes K rq ys).set n ((recBytes K rq ys)[n] ^^^ t) := by
                rw [hfs, hU0, ← hrl]
                exact set_mid pre (recBytes K rq ys) zs n _ hXn
              rw [hsm] at hB2
              have hNE := HRW.out n hXn (by omega) (by omega)
              rw [UInt8.toNat_xor] at hB2
              rw [hgm] at hc
              have hfz := hRow.frozen (U + n)
              have hcl := hRow.len
              rw [← HFR.out.1] at hcl
              have hxo := u8_xor_nat ((recBytes K rq ys)[n]).toNat t.toNat (UInt8.toNat_lt _) (UInt8.toNat_lt _)
              have hE2 := hE.setCell (p := ⟨gB, U + n, none⟩) hHgb (.int .u8 ((((recBytes K rq ys)[n]).toNat ^^^ t.toNat : Nat) : Int))
              have hEc := ((Chg.setCell (S := fun q => q = gB) (p := ⟨gB, U + n, none⟩) (Chg.refl _ wc) (fun _ => rfl) (.int .u8 ((((recBytes K rq ys)[n]).toNat ^^^ t.toNat : Nat) : Int))).cell (o := k) hEz (fun h => hbe h.symm)).trans q3
              generalize hL : (recBytes K rq ys).set n ((recBytes K rq ys)[n] ^^^ t) = L at *
              generalize (recBytes K rq ys)[n] = x at *
              have HNE := Lib.hid hNE
              have HEC := Lib.hid hEc
              have HB2 := Lib.hid hB2
              clear hfs hrl hU0 hXn hFl hgm hR2 hsm hL hNE hEc hB2 hi
              go_upto_region 34 with fail
              generalize wc.setCell ⟨gB, U + n, none⟩ (.int .u8 ((x.toNat ^^^ t.toNat : Nat) : Int)) = w6 at *
              have q6 := HEC.out
              have hB6 := HB2.out
              have hN : 15 + m = U2 - U := by have := HUS.out; omega
              rw [hN] at hB6
              have HD := Lib.hid (recdec_any _ _ _ L w6 hB6 (by unfold big; omega))
              have k1 : (0 : Int) ≤ (U : Int) := by omega
              have k2 : (U : Int) ≤ (U2 : Int) := by have := HUS.out; omega
              have k3 : (U2 : Int) ≤ (cX : Int) := by omega
              clear hc hfz hxo hRow hE hN hB6 HB2 HEC q3
              go_wp2_with fail
              refine HD.out.mono ?_
              rintro e w7 ⟨hcase, hb7⟩
              obtain ⟨W9, hW9⟩ : ∃ W9, W9 = recWhy L := ⟨_, rfl⟩
              have hW0 : W9 ≠ 0 := by rw [hW9]; exact HNE.out
              obtain rfl : e = .returned (recV 0 0 (.slice none 0 0) 0 W9) := by
                rcases hcase with ⟨h1, _⟩ | ⟨_, h1⟩
                · exact absurd h1 HNE.out
                · rw [h1, hW9]
              have z : ((W9 : Int) != 0) = true := by rw [bne_iff_ne]; omega
              unfold recV
              have hE7 := (hE2.step hb7).alloc (.cells #[.int .i64 0, .int .u64 0, .slice none 0 0] 27)
              clear hcase HD HNE hW9 hW0 hE2 hb7 q6
              go_wp2_with fail
              refine (rec_known _).mono ?_
              rintro e w8 ⟨rfl, hb8⟩
              go_wp2_with fail
              go_ret
              exact ⟨rfl, (hE7.step hb8).1⟩
end Go.Proofs.Ytmjlndfkddacbaa
