/- The walk of MerkleNumbers. -/
import Derived.Test.YtaomkjnkfkahhaaMerkNa
import Derived.Test.YtaomkjnkfkahhaaMerkNb
import Derived.Test.YtaomkjnkfkahhaaHeld
namespace Go.Proofs.Ytaomkjnkfkahhaa
open Go.RowKit
set_option linter.unusedVariables false

theorem mpath_no_any (n : Nat) (a : Option Addr) (cap : Nat) (i : Int) (w : World) (h : i < 0 ∨ (n : Int) ≤ i) :
    Calls Try.prog 14 #[.slice a n cap, .int .i64 i] w fun e w' => e = .returned (.tuple #[.slice none 0 0, .int .i64 1]) ∧ Below w.heap.size w w' := mpath_no n a cap i w h
set_option maxHeartbeats 8000000 in
set_option maxRecDepth 100000 in
theorem MerkleNumbers_walk (w : World) :
    Calls Try.prog 5 #[] w fun e w' => e = .returned (.bool true) ∧ Below w.heap.size w w' := by
  have hE := Ext.refl w
  obtain ⟨H, hH⟩ : ∃ H, H = w.heap.size := ⟨_, rfl⟩
  rw [← hH] at hE ⊢
  clear hH
  have z1 : ∀ L : List UInt8, (!(strOf L).toList == (strOf L).toList) = false := fun L => by simp
  go_enter Try.func5, Try.ntmps5
  go_upto_block 0 with fail
  go_cut [1] (fun v wr => ∃ L, OwnL wr H v L ∧ L.length = 11 ∧ (∀ x ∈ L, x.length ≤ 1000) ∧ Ext H w wr)
  case first =>
    go_wp2_with fail
    go_loopw [1, 2] (fun v i wr => ∃ (n : Nat) (L : List (List UInt8)), i = .int .i64 (n : Int) ∧ n ≤ 11 ∧ OwnL wr H v L ∧ L.length = n ∧ (∀ x ∈ L, x.length ≤ 1000) ∧ Ext H w wr) (fun _ i _ => 11 - (intOf i).toNat)
    case atStart => exact ⟨0, [], rfl, by omega, OwnL.nil _ _, rfl, by simp, hE⟩
    case round =>
      obtain ⟨n, L, rfl, hn, hO, hLl, hsh, hE1⟩ := hrel
      have HS := Lib.hid hsh
      have HN := Lib.hid hLl
      clear hE hsh
      by_cases hlt : n < 11
      · obtain ⟨a, c, rfl, hL⟩ := hO.ll hLl
        have hE := hE1
        have e00 : (n : Int) < 11 := by omega
        clear hE1 hLl
        go_upto_region 5 with fail
        go_cut [21] (fun s wx => s = .bool false ∧ OwnL wx H (.slice a n c) L ∧ LL wx a n c L ∧ Ext H w wx)
        case first =>
          obtain ⟨wd, hwd⟩ : ∃ wd, wd = wr.drew := ⟨_, rfl⟩
          have hb : Below wr.heap.size wr wd := by rw [hwd]; exact (Below.refl _ _).drew
          have hL := hL.below hb
          have hO := hO.below hb
          have hE := hE.step hb
          clear hb
          refine held_start (by kernel_rfl) (fun hHeld => ?_)
          rw [← hwd] at hHeld ⊢
          clear hwd
          refine held_take (i := 0) (v := ?_) 15 rfl (by kernel_rfl) (by kernel_rfl) (by kernel_rfl) (fun _ _ _ h => h) rfl (by assumption) (Or.inl ⟨by rfl, ?_⟩) ?_
          rotate_left
          · intro w hSw; go_simp; (try with_reducible rfl)
          simp only [List.set_cons_zero, List.set_cons_succ]
          refine held_take (i := 3) (v := ?_) 18 rfl (by kernel_rfl) (by kernel_rfl) (by kernel_rfl) (fun _ _ _ h => h) rfl (by assumption) (Or.inl ⟨by rfl, ?_⟩) ?_
          rotate_left
          · intro w hSw; go_simp; (try with_reducible rfl)
          simp only [List.set_cons_zero, List.set_cons_succ]
          refine wpAnyH_ready (rs := [1]) (by kernel_rfl) (by simp) ?_
          refine (AllReadyH.cons rfl (fun K hK => ?_) AllReadyH.nil)
          go_simp
          refine (root_any n _ c L _ (hL.below hHeld) HS.out (by omega)).mono ?_
          rintro e w1x ⟨v1, rfl, ho1, hb⟩
          have hbt := HB.trans hHeld hb
          have hL := hL.below hbt
          have hO := hO.below hbt
          have hE := hE.step hbt
          obtain ⟨a1, c1, rfl, hB1⟩ := ho1.bsn (n := 32) (mroot_length _)
          clear ho1
          go_wp2_with fail
          refine hK.out _ _ hbt (fun _ => held_next hbt (fun hHeld2 => ?_))
          clear hK hHeld hb hbt K
          have hHeld := hHeld2
          clear hHeld2
          refine held_take (i := 2) (v := ?_) 17 rfl (by kernel_rfl) (by kernel_rfl) (by kernel_rfl) (fun _ _ _ h => h) rfl (by assumption) (Or.inl ⟨by rfl, ?_⟩) ?_
          rotate_left
          · intro w hSw; have hs := run_string (hB1.below hSw); go_simp; (try with_reducible rfl)
          simp only [List.set_cons_zero, List.set_cons_succ]
          refine wpAnyH_ready (rs := [4]) (by kernel_rfl) (by simp) ?_
          refine (AllReadyH.cons rfl (fun K hK => ?_) AllReadyH.nil)
          go_simp
          refine (rroot_any n _ c L _ (hL.below hHeld) HS.out (by omega)).mono ?_
          rintro e w2x ⟨v4, rfl, ho4, hb⟩
          have hbt := HB.trans hHeld hb
          have hL := hL.below hbt
          have hO := hO.below hbt
          have hE := hE.step hbt
          have hB1 := hB1.below hbt
          obtain ⟨a4, c4, rfl, hB4⟩ := ho4.bsn (n := 32) (mroot_length _)
          clear ho4
          go_wp2_with fail
          refine hK.out _ _ hbt (fun _ => held_next hbt (fun hHeld2 => ?_))
          clear hK hHeld hb hbt K
          have hHeld := hHeld2
          clear hHeld2
          refine held_take (i := 5) (v := ?_) 20 rfl (by kernel_rfl) (by kernel_rfl) (by kernel_rfl) (fun _ _ _ h => h) rfl (by assumption) (Or.inl ⟨by rfl, ?_⟩) ?_
          rotate_left
          · intro w hSw; have hs := run_string (hB4.below hSw); go_simp; (try with_reducible rfl)
          simp only [List.set_cons_zero, List.set_cons_succ]
          refine held_take (i := 6) (v := ?_) 21 rfl (by kernel_rfl) (by kernel_rfl) (by kernel_rfl) (fun _ _ _ h => h) rfl (by assumption) (Or.inl ⟨by rfl, ?_⟩) ?_
          rotate_left
          · intro w hSw; go_simp; (try with_reducible rfl)
          simp only [List.set_cons_zero, List.set_cons_succ]
          refine wpAnyH_done (by kernel_rfl) ?_ _
          go_wp2_with fail
          go_meet
          exact ⟨rfl, hO.below hHeld, hL.below hHeld, hE.step hHeld⟩
        case rest =>
        obtain ⟨rfl, hO, hL, hE⟩ := hcut
        go_upto_block 2 with fail
        go_cut [3] (fun _ wx => OwnL wx H (.slice a n c) L ∧ LL wx a n c L ∧ Ext H w wx)
        case first =>
          go_wp2_with fail
          go_loopw [3] (fun i wx => ∃ j : Nat, i = .int .i64 ((j : Int) - 1) ∧ j ≤ n + 2 ∧ OwnL wx H (.slice a n c) L ∧ LL wx a n c L ∧ Ext H w wx) (fun i _ => (n + 2 - (intOf i + 1)).toNat)
          case atStart => exact ⟨0, rfl, by omega, hO, hL, hE⟩
          case round =>
            obtain ⟨j, rfl, hj, hO1, hL1, hE1⟩ := hrel
            clear hO hL hE
            by_cases hle : j ≤ n + 1
            · have i3 : IntKind.i64.wrap ((j : Int) - 1 + 1) = ((j + 1 : Nat) : Int) - 1 := by rw [IntWalk.i64_in _ (by omega)]; omega
              by_cases hin : 1 ≤ j ∧ j ≤ n
              · obtain ⟨I, rfl⟩ : ∃ I, j = I + 1 := ⟨j - 1, by omega⟩
                have hIn : I < n := by omega
                have hji : (((I + 1 : Nat) : Int) - 1) = (I : Int) := by omega
                rw [hji] at i3 ⊢
                have i4 : IntKind.i64.wrap ((I : Int) + 1) = ((I + 1 : Nat) : Int) := by rw [IntWalk.i64_in _ (by omega)]; omega
                have e0 : (I : Int) ≤ (n : Int) := by omega
                have e1 : (0 : Int) ≤ (I : Int) := by omega
                have e2 : (I : Int) < (n : Int) := by omega
                clear i3 hji hin
                go_wp2_with fail
                refine (mpath_yes n a c L I _ hL1 HS.out (by omega) hIn).mono ?_
                rintro e w3 ⟨v, rfl, hP, hb⟩
                have hL := hL1.below hb
                have hO := hO1.below hb
                have hE := hE1.step hb
                have hd := dep_le 6 I n (by omega)
                obtain ⟨ap, cp, rfl, hPL⟩ := hP.ll (n := dep I n) (by rw [mpath_length, HN.out])
                clear hP hb hL1 hO1 hE1
                go_wp2_with fail
                refine (rpath_any n a c L I w3 hL HS.out (by omega) hIn).mono ?_
                rintro e wk ⟨v, rfl, hP, hb⟩
                have hL := hL.below hb
                have hO := hO.below hb
                have hE := hE.step hb
                have hPL := hPL.below hb
                obtain ⟨aq, cq, rfl, hQL⟩ := hP.ll (n := dep I n) (by rw [mpath_length, HN.out])
                have HC1 := Lib.hid (mcheck_path L I n HN.out hIn)
                have HC3 : Hid (mcheck (mroot L) (L.getD I []) I n (mpath L I ++ [mroot L]) = false) := Lib.hid (mcheck_len _ _ _ _ _ hIn (by rw [List.length_append, mpath_length, HN.out]; simp))
                have HC4 : Hid (0 < dep I n → mcheck (mroot L) (L.getD I []) I n ((mpath L I).drop 1) = false) := Lib.hid (fun h => mcheck_len _ _ _ _ _ hIn (by rw [List.length_drop, mpath_length, HN.out]; omega))
                have HPS := Lib.hid (mpath_shorts L I)
                have HPS3 : Hid (∀ p ∈ mpath L I ++ [mroot L], p.length ≤ 1000) := Lib.hid (fun p hp => by
                  rcases List.mem_append.1 hp with hp | hp
                  · exact mpath_shorts L I p hp
                  · rw [List.mem_singleton.1 hp, mroot_length]; omega)
                have HPS4 : Hid (∀ p ∈ (mpath L I).drop 1, p.length ≤ 1000) := Lib.hid (fun p hp => mpath_shorts L I p (List.mem_of_mem_drop hp))
                have HPL : Hid ((mpath L I).length = dep I n) := Lib.hid (by rw [mpath_length, HN.out])
                generalize dep I n = lp at *
                generalize mpath L I = ps at *
                obtain ⟨b, off, al, ml, cl, rfl, hCl, hBl⟩ := hL.row hIn
                have hml : ml ≤ 1000 := by rw [← hBl.1]; exact getD_short HS.out I
                clear hP hb
                by_cases hlp : 0 < lp
                · have g7 : (0 : Int) < (lp : Int) := by omega
                  have HC4 := Lib.hid (HC4.out hlp)
                  have hQD := hQL.drop (k := 1) (by omega)
                  obtain ⟨ad, had⟩ : ∃ ad, (if cq = 1 then aq else aq.map (·.add 1)) = ad := ⟨_, rfl⟩
                  rw [had] at hQD
                  have g8 : (1 : Int) ≤ (lp : Int) := by omega
                  have g9 : 1 ≤ lp := by omega
                  go_upto_region 15 with fail
                  refine mn15a w wk H n I b off c lp cp cq ml cl ap aq al L ps z1 HS (by omega) hIn hd hml hL hO hPL hQL hCl hBl hE HC1 HC3 HPS HPS3 HPL HC4 HPS4 ad had hQD hlp _ _ _ _ _ _ _ _ _ _ _ _ _ _ _ _ _ _ _ _ _ _ _ _ _ _ _ _ _ _ _ _ _ _ _ _ _ _ _ _ _ _ _ _ _ _ _ _ _ _ _ _ _ _ _ _ _ _ _ _ _ _ _ _ _ _ _ _ _ _ _ _ _ _ _ _ _ _ _ _ _ _ _ _ _ _ _ _ _ _ _ _ _ _ _ _ _ _ _ _ _ _ _ _ _ _ _ _ _ _ _ _ _ _ _ _ _ _ _ _ _ _ _ _ _ _ _ _ _ _ _ _ _ _ _ _ _ _ _ _ _ _ _ _ _ _ _ _ _ _ _ _ _ _ _ _ _ _ _ _ _ _ _ _ _ _ _ _ _ _ _ _ _ _ _ _ _ _ _ _ _ _ _ _ _ _ _ _ _ _ _ _ _ _ _ (fun _ _ _ _ _ h => h) ?rsa
                  case rsa =>
                    intro _ wc hinv
                    obtain ⟨u50, hinv⟩ := hinv
                    obtain ⟨u51, hinv⟩ := hinv
                    obtain ⟨u52, hinv⟩ := hinv
                    obtain ⟨u53, hinv⟩ := hinv
                    obtain ⟨u54, hinv⟩ := hinv
                    obtain ⟨u55, hinv⟩ := hinv
                    obtain ⟨u56, hinv⟩ := hinv
                    obtain ⟨u57, hinv⟩ := hinv
                    obtain ⟨u58, hinv⟩ := hinv
                    obtain ⟨u59, hinv⟩ := hinv
                    obtain ⟨u60, hinv⟩ := hinv
                    obtain ⟨u61, hinv⟩ := hinv
                    obtain ⟨u62, hinv⟩ := hinv
                    obtain ⟨u63, hinv⟩ := hinv
                    obtain ⟨u64, hinv⟩ := hinv
                    obtain ⟨u65, hinv⟩ := hinv
                    obtain ⟨u66, hinv⟩ := hinv
                    obtain ⟨u67, hinv⟩ := hinv
                    obtain ⟨u68, hinv⟩ := hinv
                    obtain ⟨u69, hinv⟩ := hinv
                    obtain ⟨u70, hinv⟩ := hinv
                    obtain ⟨u71, hinv⟩ := hinv
                    obtain ⟨u72, hinv⟩ := hinv
                    obtain ⟨u73, hinv⟩ := hinv
                    obtain ⟨u74, hinv⟩ := hinv
                    obtain ⟨u75, hinv⟩ := hinv
                    obtain ⟨u76, hinv⟩ := hinv
                    obtain ⟨u77, hinv⟩ := hinv
                    obtain ⟨u78, hinv⟩ := hinv
                    obtain ⟨u79, hinv⟩ := hinv
                    obtain ⟨u80, hinv⟩ := hinv
                    obtain ⟨u81, hinv⟩ := hinv
                    obtain ⟨u82, hinv⟩ := hinv
                    obtain ⟨u83, hinv⟩ := hinv
                    obtain ⟨u84, hinv⟩ := hinv
                    obtain ⟨u85, hinv⟩ := hinv
                    obtain ⟨u86, hinv⟩ := hinv
                    obtain ⟨u87, hinv⟩ := hinv
                    obtain ⟨u88, hinv⟩ := hinv
                    obtain ⟨u89, hinv⟩ := hinv
                    obtain ⟨u90, hinv⟩ := hinv
                    obtain ⟨u91, hinv⟩ := hinv
                    obtain ⟨u92, hinv⟩ := hinv
                    obtain ⟨u93, hinv⟩ := hinv
                    obtain ⟨u94, hinv⟩ := hinv
                    obtain ⟨u95, hinv⟩ := hinv
                    obtain ⟨u96, hinv⟩ := hinv
                    obtain ⟨u97, hinv⟩ := hinv
                    obtain ⟨u98, hinv⟩ := hinv
                    obtain ⟨u99, hinv⟩ := hinv
                    obtain ⟨u100, hinv⟩ := hinv
                    obtain ⟨u101, hinv⟩ := hinv
                    obtain ⟨u102, hinv⟩ := hinv
                    obtain ⟨u103, hinv⟩ := hinv
                    obtain ⟨u104, hinv⟩ := hinv
                    obtain ⟨u105, hinv⟩ := hinv
                    obtain ⟨u106, hinv⟩ := hinv
                    obtain ⟨hcut, ha⟩ := hinv
                    subst ha
                    obtain ⟨rfl, hO, hL, hE⟩ := hcut
                    go_wp2_with fail
                    go_roundw
                    case rel => exact ⟨I + 1 + 1, by have : (((I + 1 + 1 : Nat) : Int) - 1) = ((I + 1 : Nat) : Int) := by omega
                                                     rw [this]; rfl, by omega, hO, hL, hE⟩
                    case measure => simp [intOf]; omega
                · have g7 : ¬ (0 : Int) < (lp : Int) := by omega
                  go_upto_region 15 with fail
                  refine mn15b w wk H n I b off c lp cp cq ml cl ap aq al L ps z1 HS (by omega) hIn hd hml hL hO hPL hQL hCl hBl hE HC1 HC3 HPS HPS3 HPL hlp _ _ _ _ _ _ _ _ _ _ _ _ _ _ _ _ _ _ _ _ _ _ _ _ _ _ _ _ _ _ _ _ _ _ _ _ _ _ _ _ _ _ _ _ _ _ _ _ _ _ _ _ _ _ _ _ _ _ _ _ _ _ _ _ _ _ _ _ _ _ _ _ _ _ _ _ _ _ _ _ _ _ _ _ _ _ _ _ _ _ _ _ _ _ _ _ _ _ _ _ _ _ _ _ _ _ _ _ _ _ _ _ _ _ _ _ _ _ _ _ _ _ _ _ _ _ _ _ _ _ _ _ _ _ _ _ _ _ _ _ _ _ _ _ _ _ _ _ _ _ _ _ _ _ _ _ _ _ _ _ _ _ _ _ _ _ _ _ _ _ _ _ _ _ _ _ _ _ _ _ _ _ _ _ _ _ _ _ _ _ _ _ _ _ _ (fun _ _ _ _ _ h => h) ?rsb
                  case rsb =>
                    intro _ wc hinv
                    obtain ⟨u50, hinv⟩ := hinv
                    obtain ⟨u51, hinv⟩ := hinv
                    obtain ⟨u52, hinv⟩ := hinv
                    obtain ⟨u53, hinv⟩ := hinv
                    obtain ⟨u54, hinv⟩ := hinv
                    obtain ⟨u55, hinv⟩ := hinv
                    obtain ⟨u56, hinv⟩ := hinv
                    obtain ⟨u57, hinv⟩ := hinv
                    obtain ⟨u58, hinv⟩ := hinv
                    obtain ⟨u59, hinv⟩ := hinv
                    obtain ⟨u60, hinv⟩ := hinv
                    obtain ⟨u61, hinv⟩ := hinv
                    obtain ⟨u62, hinv⟩ := hinv
                    obtain ⟨u63, hinv⟩ := hinv
                    obtain ⟨u64, hinv⟩ := hinv
                    obtain ⟨u65, hinv⟩ := hinv
                    obtain ⟨u66, hinv⟩ := hinv
                    obtain ⟨u67, hinv⟩ := hinv
                    obtain ⟨u68, hinv⟩ := hinv
                    obtain ⟨u69, hinv⟩ := hinv
                    obtain ⟨u70, hinv⟩ := hinv
                    obtain ⟨u71, hinv⟩ := hinv
                    obtain ⟨u72, hinv⟩ := hinv
                    obtain ⟨u73, hinv⟩ := hinv
                    obtain ⟨u74, hinv⟩ := hinv
                    obtain ⟨u75, hinv⟩ := hinv
                    obtain ⟨u76, hinv⟩ := hinv
                    obtain ⟨u77, hinv⟩ := hinv
                    obtain ⟨u78, hinv⟩ := hinv
                    obtain ⟨u79, hinv⟩ := hinv
                    obtain ⟨u80, hinv⟩ := hinv
                    obtain ⟨u81, hinv⟩ := hinv
                    obtain ⟨u82, hinv⟩ := hinv
                    obtain ⟨u83, hinv⟩ := hinv
                    obtain ⟨u84, hinv⟩ := hinv
                    obtain ⟨u85, hinv⟩ := hinv
                    obtain ⟨u86, hinv⟩ := hinv
                    obtain ⟨u87, hinv⟩ := hinv
                    obtain ⟨u88, hinv⟩ := hinv
                    obtain ⟨u89, hinv⟩ := hinv
                    obtain ⟨u90, hinv⟩ := hinv
                    obtain ⟨u91, hinv⟩ := hinv
                    obtain ⟨u92, hinv⟩ := hinv
                    obtain ⟨u93, hinv⟩ := hinv
                    obtain ⟨u94, hinv⟩ := hinv
                    obtain ⟨u95, hinv⟩ := hinv
                    obtain ⟨u96, hinv⟩ := hinv
                    obtain ⟨u97, hinv⟩ := hinv
                    obtain ⟨u98, hinv⟩ := hinv
                    obtain ⟨u99, hinv⟩ := hinv
                    obtain ⟨u100, hinv⟩ := hinv
                    obtain ⟨u101, hinv⟩ := hinv
                    obtain ⟨u102, hinv⟩ := hinv
                    obtain ⟨u103, hinv⟩ := hinv
                    obtain ⟨u104, hinv⟩ := hinv
                    obtain ⟨u105, hinv⟩ := hinv
                    obtain ⟨u106, hinv⟩ := hinv
                    obtain ⟨hcut, ha⟩ := hinv
                    subst ha
                    obtain ⟨rfl, hO, hL, hE⟩ := hcut
                    go_wp2_with fail
                    go_roundw
                    case rel => exact ⟨I + 1 + 1, by have : (((I + 1 + 1 : Nat) : Int) - 1) = ((I + 1 : Nat) : Int) := by omega
                                                     rw [this]; rfl, by omega, hO, hL, hE⟩
                    case measure => simp [intOf]; omega
              · obtain ⟨i0, hi0⟩ : ∃ i0 : Int, i0 = (j : Int) - 1 := ⟨_, rfl⟩
                rw [← hi0] at i3 ⊢
                have hx : i0 < 0 ∨ (n : Int) ≤ i0 := by omega
                have e0 : i0 ≤ (n : Int) := by omega
                have HI0 := Lib.hid hi0
                clear hi0 hin
                go_wp2_with fail
                refine (mpath_no_any n a c i0 _ hx).mono ?_
                rintro e w3 ⟨rfl, hb⟩
                have hL := hL1.below hb
                have hO := hO1.below hb
                have hE := hE1.step hb
                clear hb hL1 hO1 hE1
                by_cases hneg : i0 < 0
                · clear hx
                  go_wp2_with fail
                  go_roundw
                  case rel => exact ⟨j + 1, congrArg (Value.int .i64) (by omega), by omega, hO, hL, hE⟩
                  case measure => have := HI0.out; simp [intOf]; omega
                · have hge : (n : Int) ≤ i0 := by omega
                  clear hx
                  go_wp2_with fail
                  go_roundw
                  case rel => exact ⟨j + 1, congrArg (Value.int .i64) (by omega), by omega, hO, hL, hE⟩
                  case measure => have := HI0.out; simp [intOf]; omega
            · have e0 : ¬ ((j : Int) - 1 ≤ (n : Int)) := by omega
              go_wp2_with fail
              go_meet
              exact ⟨hO1, hL1, hE1⟩
        case rest =>
        obtain ⟨hO, hL, hE⟩ := hcut
        go_upto_block 4 with fail
        go_cut [7] (fun _ wx => OwnL wx H (.slice a n c) L ∧ LL wx a n c L ∧ Ext H w wx)
        case first =>
          go_wp2_with fail
          go_loopw [7] (fun i wx => ∃ j : Nat, i = .int .i64 ((j : Int) - 1) ∧ j ≤ n + 3 ∧ OwnL wx H (.slice a n c) L ∧ LL wx a n c L ∧ Ext H w wx) (fun i _ => (n + 3 - (intOf i + 1)).toNat)
          case atStart => exact ⟨0, rfl, by omega, hO, hL, hE⟩
          case round =>
            obtain ⟨j, rfl, hj, hO1, hL1, hE1⟩ := hrel
            clear hO hL hE
            have i5 : IntKind.i64.wrap ((n : Int) + 1) = (n : Int) + 1 := IntWalk.i64_in _ (by omega)
            by_cases hle : j ≤ n + 2
            · have i3 : IntKind.i64.wrap ((j : Int) - 1 + 1) = ((j + 1 : Nat) : Int) - 1 := by rw [IntWalk.i64_in _ (by omega)]; omega
              by_cases hin : 2 ≤ j ∧ j ≤ n + 1
              · obtain ⟨M, rfl⟩ : ∃ M, j = M + 1 := ⟨j - 1, by omega⟩
                have hM1 : 1 ≤ M := by omega
                have hMn : M ≤ n := by omega
                have hji : (((M + 1 : Nat) : Int) - 1) = (M : Int) := by omega
                rw [hji] at i3 ⊢
                have i4 : IntKind.i64.wrap ((M : Int) + 1) = ((M + 1 : Nat) : Int) := by rw [IntWalk.i64_in _ (by omega)]; omega
                have e0 : (M : Int) ≤ (n : Int) + 1 := by omega
                have e1 : (1 : Int) ≤ (M : Int) := by omega
                have e2 : (M : Int) ≤ (n : Int) := by omega
                have e3 : (0 : Int) ≤ (M : Int) := by omega
                have hnc := hL1.2.1
                have e4 : (M : Int) ≤ (c : Int) := by omega
                have e5 : M ≤ c := by omega
                clear i3 hji hin
                go_wp2_with fail
                refine (mgrown_yes n a c L M _ hL1 HS.out (by omega) hM1 hMn).mono ?_
                rintro e w3 ⟨v, rfl, hP, hb⟩
                have hL := hL1.below hb
                have hO := hO1.below hb
                have hE := hE1.step hb
                have hd := gdep_le 6 M n true (by omega)
                obtain ⟨ag, cg, rfl, hGL⟩ := hP.ll (n := gdep M n true) (by rw [mgrown_length, HN.out])
                clear hP hb hL1 hO1 hE1
                go_wp2_with fail
                refine (rgrown_yes n a c L M w3 hL HS.out (by omega) hM1 hMn).mono ?_
                rintro e w4 ⟨v, rfl, hP, hb⟩
                have hL := hL.below hb
                have hO := hO.below hb
                have hE := hE.step hb
                have hGL := hGL.below hb
                obtain ⟨ah, ch, rfl, hHL⟩ := hP.ll (n := gdep M n true) (by rw [mgrown_length, HN.out])
                have HC1 := Lib.hid (mcheckG_grown L M n HN.out hM1 hMn)
                have HC3 : Hid (mcheckG (mroot (L.take M)) (mroot L) M n (mgrown L M true ++ [mroot L]) = false) := Lib.hid (mcheckG_len _ _ _ _ _ hM1 hMn (by rw [List.length_append, mgrown_length, HN.out]; simp))
                have HGS := Lib.hid (mgrown_shorts L M true)
                have HGS3 : Hid (∀ p ∈ mgrown L M true ++ [mroot L], p.length ≤ 1000) := Lib.hid (fun p hp => by
                  rcases List.mem_append.1 hp with hp | hp
                  · exact mgrown_shorts L M true p hp
                  · rw [List.mem_singleton.1 hp, mroot_length]; omega)
                have HGL : Hid ((mgrown L M true).length = gdep M n true) := Lib.hid (by rw [mgrown_length, HN.out])
                generalize gdep M n true = lg at *
                generalize mgrown L M true = gs at *
                clear hP hb
                go_wp2_with fail
                refine (lists_same _ _ lg _ _ gs w4 hGL hHL (by omega)).mono ?_
                rintro e w5 ⟨rfl, hb⟩
                have hL := hL.below hb
                have hO := hO.below hb
                have hE := hE.step hb
                have hHL := hHL.below hb
                clear hb hGL
                go_wp2_with fail
                refine (rroot_any M _ c (L.take M) w5 (hL.take hMn) (take_short HS.out M) (by omega)).mono ?_
                rintro e w6 ⟨v, rfl, hP, hb⟩
                have hL := hL.below hb
                have hO := hO.below hb
                have hE := hE.step hb
                have hHL := hHL.below hb
                obtain ⟨a1, c1, rfl, hB1⟩ := hP.bsn (n := 32) (mroot_length _)
                clear hb hP
                go_wp2_with fail
                refine (rroot_any n _ c L w6 hL HS.out (by omega)).mono ?_
                rintro e w7 ⟨v, rfl, hP, hb⟩
                have hL := hL.below hb
                have hO := hO.below hb
                have hE := hE.step hb
                have hHL := hHL.below hb
                have hB1 := hB1.below hb
                obtain ⟨a2, c2, rfl, hB2⟩ := hP.bsn (n := 32) (mroot_length _)
                clear hb hP
                go_wp2_with fail
                refine (checkG_eq _ _ _ _ _ _ _ _ (M : Int) (n : Int) _ _ _ _ true w7 hB1 hB2 hHL HGS.out (by omega) (by omega) (by omega) HC1.out).mono ?_
                rintro e w8 ⟨rfl, hb⟩
                have hL := hL.below hb
                have hO := hO.below hb
                have hE := hE.step hb
                have hHL := hHL.below hb
                clear hb hB1 hB2
                go_wp2_with fail
                refine (rroot_any M _ c (L.take M) w8 (hL.take hMn) (take_short HS.out M) (by omega)).mono ?_
                rintro e w9 ⟨v, rfl, hP, hb⟩
                have hL := hL.below hb
                have hO := hO.below hb
                have hE := hE.step hb
                have hHL := hHL.below hb
                obtain ⟨a3, c3, rfl, hB3⟩ := hP.bsn (n := 32) (mroot_length _)
                clear hb hP
                go_wp2_with fail
                refine (rroot_any n _ c L w9 hL HS.out (by omega)).mono ?_
                rintro e w10 ⟨v, rfl, hP, hb⟩
                have hL := hL.below hb
                have hO := hO.below hb
                have hE := hE.step hb
                have hHL := hHL.below hb
                have hB3 := hB3.below hb
                obtain ⟨a4, c4, rfl, hB4⟩ := hP.bsn (n := 32) (mroot_length _)
                clear hb hP
                have hN := OwnL.none w10
                have hHA := hHL.below ((Below.refl w10.heap.size w10).alloc (Nat.le_refl _) (.cells #[] TBS))
                have hap := hHL.apart ((Below.refl _ _).alloc (Nat.le_refl _) (.cells #[] TBS)) (o := (Value.slice (some ⟨w10.heap.size, 0, none⟩) 0 0).ownBlock) (fun k hk => (hN.lt k hk).1)
                have HN0 := Lib.hid (And.intro hN (And.intro hHA (And.intro hap (show ([] : List (List UInt8)).length + lg ≤ 1000000 by simp; omega))))
                have hb3 := fun ad h => hB3.blk' (by omega) ad h
                have hb4 := fun ad h => hB4.blk' (by omega) ad h
                have HBS := Lib.hid (And.intro hB3 (And.intro hB4 (And.intro hb3 (And.intro hb4 (And.intro hL (And.intro hO hE))))))
                clear hN hHA hap hb3 hb4 hB3 hB4 hL hO hE hHL
                go_wp2_with (at_builtin; refine wpList_append_ll_w (by rfl) (.tmp 166) (.tmp 167) rfl w10.heap.size (.slice (some ⟨w10.heap.size, 0, none⟩) 0 0) [] rfl HN0.out.1 ah lg ch gs rfl HN0.out.2.1 HN0.out.2.2.1 HN0.out.2.2.2 (by simp) ?_)
                intro v32 w11 hO32 hg hown
                obtain ⟨hB3, hB4, hb3, hb4, hL, hO, hE⟩ := HBS.out
                have hb11 : Below w10.heap.size w10 w11 := Below.grown ((Below.refl w10.heap.size w10).alloc (Nat.le_refl _) (.cells #[] TBS)) hg (by simp) (fun k hk => (HN0.out.1.lt k hk).1)
                have hlt32 := hO32.lt
                have hsz10 := hb11.size
                have HB11 := Lib.hid (And.intro hb11 (And.intro hL (And.intro hO hE)))
                have hL := hL.below hb11
                have hO := hO.below hb11
                have hE := hE.step hb11
                have hB3 := hB3.below hb11
                have hB4 := hB4.below hb11
                clear HBS HN0 hg hown hb11
                go_wp2_with fail
                refine (rroot_any n _ c L w11 hL HS.out (by omega)).mono ?_
                rintro e w12 ⟨v, rfl, hP, hb⟩
                obtain ⟨a5, c5, rfl, hB5⟩ := hP.bsn (n := 32) (mroot_length _)
                have hap5 : 0 < 32 → ∀ x, a5 = some x → v32.ownBlock ≠ some x.block := fun _ x h e => by
                  have h1 := hP.new_blk x h
                  have h2 := (hlt32 _ e).2
                  omega
                have hsz := hb.size
                have HQ := Lib.hid (And.intro (hO32.below hb) (And.intro hB5 (And.intro hap5 (And.intro (show gs.length + 1 ≤ 1000000 by rw [HGL.out]; omega) (And.intro (show w10.heap.size ≤ w12.heap.size by omega) (And.intro (Below.mono hb hsz10) (And.intro (hB3.below hb) (hB4.below hb))))))))
                clear hb hP hB5 hap5 hO32 hL hO hE hB3 hB4
                go_wp2_with (at_builtin; refine wpList_append_row_w (by rfl) (.tmp 168) (.tmp 171) rfl (by rfl) w10.heap.size v32 gs rfl HQ.out.1 a5 32 c5 _ HQ.out.2.1 HQ.out.2.2.1 HQ.out.2.2.2.1 HQ.out.2.2.2.2.1 ?_)
                intro v36 w13 hO36 hg
                obtain ⟨hO32, hB5, hap5, _, hsz12, hb12, hB3, hB4⟩ := HQ.out
                obtain ⟨hb11, hL, hO, hE⟩ := HB11.out
                have hb13 : Below w10.heap.size w12 w13 := Below.grown ((Below.refl w10.heap.size w12).alloc hsz12 (.cells #[.slice a5 32 c5] TBS)) hg (by simp; omega) (fun k hk => (hO32.lt k hk).1)
                have hB3 := (hB3.alloc (.cells #[.slice a5 32 c5] TBS)).grown hg (fun _ ad h e => by have h1 := hb3 ad h; have h2 := (hO32.lt _ e).1; omega)
                have hB4 := (hB4.alloc (.cells #[.slice a5 32 c5] TBS)).grown hg (fun _ ad h e => by have h1 := hb4 ad h; have h2 := (hO32.lt _ e).1; omega)
                obtain ⟨a6, c6, rfl, hL6⟩ := hO36.ll (n := lg + 1) (by rw [List.length_append, HGL.out]; rfl)
                have hbb := (hb11.trans hb12).trans hb13
                have hL := hL.below hbb
                have hO := hO.below hbb
                have hE := hE.step hbb
                clear HB11 hb11 hb12 hbb HQ hg hO36 hO32 hB5 hap5 hb13
                go_wp2_with fail
                refine (checkG_eq _ _ _ _ _ _ _ _ (M : Int) (n : Int) _ _ _ _ false w13 hB3 hB4 hL6 HGS3.out (by omega) (by omega) (by omega) HC3.out).mono ?_
                rintro e w14 ⟨rfl, hb⟩
                have hL := hL.below hb
                have hO := hO.below hb
                have hE := hE.step hb
                clear hb hB3 hB4 hL6
                go_wp2_with fail
                go_roundw
                case rel => exact ⟨M + 1 + 1, by have : (((M + 1 + 1 : Nat) : Int) - 1) = ((M + 1 : Nat) : Int) := by omega
                                                 rw [this]; rfl, by omega, hO, hL, hE⟩
                case measure => simp [intOf]; omega
              · obtain ⟨i0, hi0⟩ : ∃ i0 : Int, i0 = (j : Int) - 1 := ⟨_, rfl⟩
                rw [← hi0] at i3 ⊢
                have hx : i0 < 1 ∨ (n : Int) < i0 := by omega
                have e0 : i0 ≤ (n : Int) + 1 := by omega
                have HI0 := Lib.hid hi0
                clear hi0 hin
                go_wp2_with fail
                refine (mgrown_no n a c i0 _ hx).mono ?_
                rintro e w3 ⟨rfl, hb⟩
                have hL := hL1.below hb
                have hO := hO1.below hb
                have hE := hE1.step hb
                clear hb hL1 hO1 hE1
                by_cases hneg : i0 < 1
                · clear hx
                  go_wp2_with fail
                  go_roundw
                  case rel => exact ⟨j + 1, congrArg (Value.int .i64) (by omega), by omega, hO, hL, hE⟩
                  case measure => have := HI0.out; simp [intOf]; omega
                · have hge : (n : Int) < i0 := by omega
                  clear hx
                  go_wp2_with fail
                  go_roundw
                  case rel => exact ⟨j + 1, congrArg (Value.int .i64) (by omega), by omega, hO, hL, hE⟩
                  case measure => have := HI0.out; simp [intOf]; omega
            · have e0 : ¬ ((j : Int) - 1 ≤ (n : Int) + 1) := by omega
              go_wp2_with fail
              go_meet
              exact ⟨hO1, hL1, hE1⟩
        case rest =>
        obtain ⟨hO, hL, hE⟩ := hcut
        have i8 : IntKind.u8.wrap (n : Int) = (n : Int) := by rw [IntKind.wrap_u8']; omega
        have hB2 := Bs.two wc (UInt8.ofNat n) 7
        rw [show ((UInt8.ofNat n).toNat : Int) = (n : Int) by rw [u8_of]; omega, show (((7 : UInt8).toNat : Nat) : Int) = 7 from rfl] at hB2
        have hO5 := hO.below ((Below.refl _ _).alloc (Nat.le_refl _) (.cells #[.int .u8 (n : Int), .int .u8 7] TB))
        have hE5 := hE.alloc (.cells #[.int .u8 (n : Int), .int .u8 7] TB)
        have hap : 0 < 2 → ∀ x, (some ⟨wc.heap.size, 0, none⟩ : Option Addr) = some x → (Value.slice a n c).ownBlock ≠ some x.block := fun _ x hx e => by
          injection hx with hx; subst hx
          have := (hO.lt _ e).2; simp at this
        have HO5 := Lib.hid (And.intro hO5 (And.intro hB2 (And.intro hap (And.intro (show L.length + 1 ≤ 1000000 by rw [HN.out]; omega) hE5))))
        clear hO5 hB2 hap hE5 hO hL hE
        go_wp2_with (at_builtin; refine wpList_append_row (w := wc.alloc (.cells #[.int .u8 (n : Int), .int .u8 7] TB)) rfl (.tmp 175) (.tmp 179) rfl (by first | rfl | exact congrArg (fun k => Value.slice (some ⟨k, 0, none⟩) 1 1) (size_al _ _).symm) H (.slice a n c) L rfl HO5.out.1 _ 2 2 _ HO5.out.2.1 HO5.out.2.2.1 HO5.out.2.2.2.1 HO5.out.2.2.2.2.2 ?_)
        intro v' w5 hO6 hg6
        have hE6 := (HO5.out.2.2.2.2.alloc (.cells #[.slice (some ⟨wc.heap.size, 0, none⟩) 2 2] TBS)).grown hg6 (fun q hq => (HO5.out.1.lt q hq).1)
        clear HO5 hg6
        go_wp2_with fail
        go_roundw
        case rel => exact ⟨n + 1, _, by go_num, by omega, hO6, by rw [List.length_append, HN.out]; rfl, fun x hx => by
          rcases List.mem_append.1 hx with hx | hx
          · exact HS.out x hx
          · rw [List.mem_singleton.1 hx]; simp, hE6⟩
        case measure => simp [intOf]; omega
      · obtain rfl : n = 11 := by omega
        go_wp2_with fail
        go_meet
        exact ⟨L, hO, hLl, HS.out, hE1⟩
  case rest =>
    obtain ⟨L, hO, hLl, hsh, hE1⟩ := hcut
    clear hE
    have hE := hE1
    have HS := Lib.hid hsh
    obtain ⟨a, c, rfl, hL⟩ := hO.ll hLl
    obtain ⟨b, off, al, ml, cl, rfl, hCl, hBl⟩ := hL.row (k := 0) (by omega)
    have hml : ml ≤ 1000 := by rw [← hBl.1]; exact getD_short HS.out 0
    rw [Nat.add_zero] at hCl
    clear hO hLl hsh hE1
    go_upto_region 28 with fail
    obtain ⟨wd, hwd⟩ : ∃ wd, wd = wc.drew := ⟨_, rfl⟩
    have hb : Below wc.heap.size wc wd := by rw [hwd]; exact (Below.refl _ _).drew
    have hL := hL.below hb
    have hBl := hBl.below hb
    have hCl := hCl.below hb
    have hE := hE.step hb
    clear hb
    refine held_start (by kernel_rfl) (fun hHeld => ?_)
    rw [← hwd] at hHeld ⊢
    clear hwd
    refine held_take (i := 0) (v := ?_) 181 rfl (by kernel_rfl) (by kernel_rfl) (by kernel_rfl) (fun _ _ _ h => h) rfl (by assumption) (Or.inl ⟨by rfl, ?_⟩) ?_
    rotate_left
    · intro w hSw; go_simp; (try with_reducible rfl)
    simp only [List.set_cons_zero, List.set_cons_succ]
    refine held_take (i := 2) (v := ?_) 183 rfl (by kernel_rfl) (by kernel_rfl) (by kernel_rfl) (fun _ _ _ h => h) rfl (by assumption) (Or.inl ⟨by rfl, ?_⟩) ?_
    rotate_left
    · intro w hSw; go_simp; (try with_reducible rfl)
    simp only [List.set_cons_zero, List.set_cons_succ]
    refine held_take (i := 3) (v := ?_) 184 rfl (by kernel_rfl) (by kernel_rfl) (by kernel_rfl) (fun _ _ _ h => h) rfl (by assumption) (Or.inl ⟨by rfl, ?_⟩) ?_
    rotate_left
    · intro w hSw; go_simp; (try with_reducible rfl)
    simp only [List.set_cons_zero, List.set_cons_succ]
    refine held_take (i := 4) (v := ?_) 185 rfl (by kernel_rfl) (by kernel_rfl) (by kernel_rfl) (fun _ _ _ h => h) rfl (by assumption) (Or.inl ⟨by rfl, ?_⟩) ?_
    rotate_left
    · intro w hSw; have hc := (hCl.below hSw).2; go_simp; (try with_reducible rfl)
    simp only [List.set_cons_zero, List.set_cons_succ]
    refine wpAnyH_ready (rs := [1]) (by kernel_rfl) (by simp) ?_
    refine (AllReadyH.cons rfl (fun K hK => ?_) AllReadyH.nil)
    go_simp
    refine (rroot_any 11 _ c L _ (hL.below hHeld) HS.out (by omega)).mono ?_
    rintro e w1x ⟨v1, rfl, ho1, hb⟩
    have hbt := HB.trans hHeld hb
    have hL := hL.below hbt
    have hBl := hBl.below hbt
    have hCl := hCl.below hbt
    have hE := hE.step hbt
    obtain ⟨a1, c1, rfl, hB1⟩ := ho1.bsn (n := 32) (mroot_length _)
    clear ho1
    go_wp2_with fail
    refine hK.out _ _ hbt (fun _ => held_next hbt (fun hHeld2 => ?_))
    clear hK hHeld hb hbt K
    have hHeld := hHeld2
    clear hHeld2
    refine wpAnyH_ready (rs := [5]) (by kernel_rfl) (by simp) ?_
    refine (AllReadyH.cons rfl (fun K hK => ?_) AllReadyH.nil)
    go_simp
    refine (check_eq _ _ _ _ _ _ _ _ 0 0 _ _ _ [] false _ hB1 (hBl.below hHeld) (LL.nil _) (by simp) hml (by omega) (by omega) rfl).mono ?_
    rintro e w2x ⟨rfl, hb⟩
    have hbt := HB.trans hHeld hb
    have hL := hL.below hbt
    have hBl := hBl.below hbt
    have hCl := hCl.below hbt
    have hE := hE.step hbt
    have hB1 := hB1.below hbt
    go_wp2_with fail
    refine hK.out _ _ hbt (fun _ => held_next hbt (fun hHeld2 => ?_))
    clear hK hHeld hb hbt K
    have hHeld := hHeld2
    clear hHeld2
    refine held_take (i := 6) (v := ?_) 187 rfl (by kernel_rfl) (by kernel_rfl) (by kernel_rfl) (fun _ _ _ h => h) rfl (by assumption) (Or.inl ⟨by rfl, ?_⟩) ?_
    rotate_left
    · intro w hSw; go_simp; (try with_reducible rfl)
    simp only [List.set_cons_zero, List.set_cons_succ]
    refine held_take (i := 7) (v := ?_) 188 rfl (by kernel_rfl) (by kernel_rfl) (by kernel_rfl) (fun _ _ _ h => h) rfl (by assumption) (Or.inl ⟨by rfl, ?_⟩) ?_
    rotate_left
    · intro w hSw; go_simp; (try with_reducible rfl)
    simp only [List.set_cons_zero, List.set_cons_succ]
    refine wpAnyH_ready (rs := [8]) (by kernel_rfl) (by simp) ?_
    refine (AllReadyH.cons rfl (fun K hK => ?_) AllReadyH.nil)
    go_simp
    refine (checkG_eq _ _ _ _ _ _ [] [] 0 0 _ _ _ [] false _ (Bs.nil _) (Bs.nil _) (LL.nil _) (by simp) (by omega) (by omega) (by omega) rfl).mono ?_
    rintro e w3x ⟨rfl, hb⟩
    have hbt := HB.trans hHeld hb
    have hL := hL.below hbt
    have hBl := hBl.below hbt
    have hCl := hCl.below hbt
    have hE := hE.step hbt
    have hB1 := hB1.below hbt
    go_wp2_with fail
    refine hK.out _ _ hbt (fun _ => held_next hbt (fun hHeld2 => ?_))
    clear hK hHeld hb hbt K
    have hHeld := hHeld2
    clear hHeld2
    refine held_take (i := 9) (v := ?_) 190 rfl (by kernel_rfl) (by kernel_rfl) (by kernel_rfl) (fun _ _ _ h => h) rfl (by assumption) (Or.inl ⟨by rfl, ?_⟩) ?_
    rotate_left
    · intro w hSw; go_simp; (try with_reducible rfl)
    simp only [List.set_cons_zero, List.set_cons_succ]
    refine held_take (i := 10) (v := ?_) 191 rfl (by kernel_rfl) (by kernel_rfl) (by kernel_rfl) (fun _ _ _ h => h) rfl (by assumption) (Or.inl ⟨by rfl, ?_⟩) ?_
    rotate_left
    · intro w hSw; go_simp; (try with_reducible rfl)
    simp only [List.set_cons_zero, List.set_cons_succ]
    refine held_take (i := 11) (v := ?_) 192 rfl (by kernel_rfl) (by kernel_rfl) (by kernel_rfl) (fun _ _ _ h => h) rfl (by assumption) (Or.inl ⟨by rfl, ?_⟩) ?_
    rotate_left
    · intro w hSw; go_simp; (try with_reducible rfl)
    simp only [List.set_cons_zero, List.set_cons_succ]
    refine wpAnyH_ready (rs := [12]) (by kernel_rfl) (by simp) ?_
    refine (AllReadyH.cons rfl (fun K hK => ?_) AllReadyH.nil)
    go_simp
    refine (checkG_eq _ _ _ _ _ _ [] [] 3 2 _ _ _ [] false _ (Bs.nil _) (Bs.nil _) (LL.nil _) (by simp) (by omega) (by omega) (by omega) rfl).mono ?_
    rintro e w4x ⟨rfl, hb⟩
    have hbt := HB.trans hHeld hb
    have hL := hL.below hbt
    have hBl := hBl.below hbt
    have hCl := hCl.below hbt
    have hE := hE.step hbt
    have hB1 := hB1.below hbt
    go_wp2_with fail
    refine hK.out _ _ hbt (fun _ => held_next hbt (fun hHeld2 => ?_))
    clear hK hHeld hb hbt K
    have hHeld := hHeld2
    clear hHeld2
    refine held_take (i := 13) (v := ?_) 194 rfl (by kernel_rfl) (by kernel_rfl) (by kernel_rfl) (fun _ _ _ h => h) rfl (by assumption) (Or.inl ⟨by rfl, ?_⟩) ?_
    rotate_left
    · intro w hSw; go_simp; (try with_reducible rfl)
    simp only [List.set_cons_zero, List.set_cons_succ]
    refine held_take (i := 14) (v := ?_) 195 rfl (by kernel_rfl) (by kernel_rfl) (by kernel_rfl) (fun _ _ _ h => h) rfl (by assumption) (Or.inl ⟨by rfl, ?_⟩) ?_
    rotate_left
    · intro w hSw; go_simp; (try with_reducible rfl)
    simp only [List.set_cons_zero, List.set_cons_succ]
    refine held_take (i := 15) (v := ?_) 196 rfl (by kernel_rfl) (by kernel_rfl) (by kernel_rfl) (fun _ _ _ h => h) rfl (by assumption) (Or.inl ⟨by rfl, ?_⟩) ?_
    rotate_left
    · intro w hSw; go_simp; (try with_reducible rfl)
    simp only [List.set_cons_zero, List.set_cons_succ]
    refine wpAnyH_ready (rs := [16]) (by kernel_rfl) (by simp) ?_
    refine (AllReadyH.cons rfl (fun K hK => ?_) AllReadyH.nil)
    go_simp
    refine (merk_known _).mono ?_
    rintro e w5x ⟨rfl, hb⟩
    have hbt := HB.trans hHeld hb
    have hL := hL.below hbt
    have hBl := hBl.below hbt
    have hCl := hCl.below hbt
    have hE := hE.step hbt
    have hB1 := hB1.below hbt
    go_wp2_with fail
    refine hK.out _ _ hbt (fun _ => held_next hbt (fun hHeld2 => ?_))
    clear hK hHeld hb hbt K
    have hHeld := hHeld2
    clear hHeld2
    refine held_take (i := 17) (v := ?_) 198 rfl (by kernel_rfl) (by kernel_rfl) (by kernel_rfl) (fun _ _ _ h => h) rfl (by assumption) (Or.inl ⟨by rfl, ?_⟩) ?_
    rotate_left
    · intro w hSw; go_simp; (try with_reducible rfl)
    simp only [List.set_cons_zero, List.set_cons_succ]
    refine held_take (i := 18) (v := ?_) 0 rfl (by kernel_rfl) (by kernel_rfl) (by kernel_rfl) (fun _ _ _ h => h) rfl (by assumption) (Or.inl ⟨by rfl, ?_⟩) ?_
    rotate_left
    · intro w hSw; go_simp; (try with_reducible rfl)
    simp only [List.set_cons_zero]
    refine wpAnyH_done (by kernel_rfl) ?_ _
    go_wp2_with fail
    go_ret
    exact ⟨rfl, (hE.step hHeld).1⟩
end Go.Proofs.Ytaomkjnkfkahhaa
