/- A region of MerkleNumbers, where a path has none. -/
import Derived.Test.YtaomkjnkfkahhaaMerkP
import Derived.Test.YtaomkjnkfkahhaaHeld
import Derived.Deep.DeepCutAuto
import Derived.Test.YtaomkjnkfkahhaaMerkNr
namespace Go.Proofs.Ytaomkjnkfkahhaa
open Go.RowKit
set_option linter.unusedVariables false

set_option maxHeartbeats 8000000 in
set_option maxRecDepth 1000000 in
theorem mn15b (w wk : World) (H n I b off c lp cp cq ml cl : Nat) (ap aq al : Option Addr) (L ps : List (List UInt8)) (z1 : ∀ L : List UInt8, (!(strOf L).toList == (strOf L).toList) = false) (HS : Hid (∀ x ∈ L, x.length ≤ 1000)) (hn : n ≤ 11) (hIn : I < n) (hd : lp ≤ 6) (hml : ml ≤ 1000)
    (hL : LL wk (some ⟨b, off, none⟩) n c L) (hO : OwnL wk H (.slice (some ⟨b, off, none⟩) n c) L) (hPL : LL wk ap lp cp ps) (hQL : LL wk aq lp cq ps) (hCl : CellIs wk b (off + I) (.slice al ml cl)) (hBl : Bs wk al ml cl (L.getD I [])) (hE : Ext H w wk)
    (HC1 : Hid (mcheck (mroot L) (L.getD I []) I n ps = true)) (HC3 : Hid (mcheck (mroot L) (L.getD I []) I n (ps ++ [mroot L]) = false)) (HPS : Hid (∀ p ∈ ps, p.length ≤ 1000)) (HPS3 : Hid (∀ p ∈ ps ++ [mroot L], p.length ≤ 1000)) (HPL : Hid (ps.length = lp)) (hlp : ¬ 0 < lp)
    (σ0 σ7 σ8 σ9 σ10 σ11 σ12 σ13 σ14 σ15 σ16 σ17 σ18 σ19 σ20 σ21 σ22 σ23 σ24 σ25 σ26 σ27 σ28 σ29 σ30 σ31 σ32 σ33 σ34 σ35 σ36 σ37 σ38 σ39 σ40 σ41 σ42 σ43 σ44 σ45 σ46 σ47 σ48 σ49 σ50 σ51 σ52 σ53 σ54 σ55 σ56 σ57 σ58 σ59 σ60 σ61 σ62 σ63 σ64 σ65 σ66 σ67 σ68 σ69 σ70 σ71 σ72 σ73 σ74 σ75 σ76 σ77 σ78 σ79 σ80 σ81 σ82 σ83 σ84 σ85 σ86 σ87 σ88 σ89 σ90 σ91 σ92 σ93 σ94 σ95 σ96 σ97 σ98 σ99 σ100 σ101 σ102 σ103 σ104 σ105 σ106 σ107 σ108 σ109 σ110 σ111 σ112 σ113 σ114 σ115 σ116 σ117 σ118 σ119 σ120 σ121 σ122 σ123 σ124 σ125 σ126 σ127 σ128 σ129 σ130 σ131 σ132 σ133 σ134 σ135 σ136 σ137 σ138 σ139 σ140 σ141 σ142 σ143 σ144 σ145 σ146 σ147 σ148 σ149 σ150 σ151 σ152 σ153 σ154 σ155 σ156 σ157 σ158 σ159 σ160 σ161 σ162 σ163 σ164 σ165 σ166 σ167 σ168 σ169 σ170 σ171 σ172 σ173 σ174 σ175 σ176 σ177 σ178 σ179 σ180 σ181 σ182 σ183 σ184 σ185 σ186 σ187 σ188 σ189 σ190 σ191 σ192 σ193 σ194 σ195 σ196 σ197 σ198 : Value) (K : Act → World → Prop) (Q : Exit → Act → World → Prop) (hQp : ∀ c d v a w, Q (.panic c) (a.put (some d) v) w → Q (.panic c) a w)
    (hR : ∀ a' w', (∃ u50 u51 u52 u53 u54 u55 u56 u57 u58 u59 u60 u61 u62 u63 u64 u65 u66 u67 u68 u69 u70 u71 u72 u73 u74 u75 u76 u77 u78 u79 u80 u81 u82 u83 u84 u85 u86 u87 u88 u89 u90 u91 u92 u93 u94 u95 u96 u97 u98 u99 u100 u101 u102 u103 u104 u105 u106 : Value, (u106 = .bool false ∧ OwnL w' H (.slice (some ⟨b, off, none⟩) n c) L ∧ LL w' (some ⟨b, off, none⟩) n c L ∧ Ext H w w') ∧ a' = ⟨#[σ0, .slice (some ⟨b, off, none⟩) n c, .int .i64 (n : Int), .int .i64 (I : Int), .slice ap lp cp, .int .i64 0, .slice aq lp cq, σ7, σ8, σ9, σ10, σ11, σ12, σ13, σ14, σ15, σ16, σ17, σ18, σ19, σ20, σ21, σ22, σ23, σ24, σ25, σ26, σ27, σ28, σ29, σ30, σ31, σ32, σ33, σ34, σ35, σ36, σ37, σ38, σ39, σ40, σ41, σ42, σ43, σ44, σ45, σ46, σ47, σ48, σ49, u50, u51, u52, u53, u54, u55, u56, u57, u58, u59, u60, u61, u62, u63, u64, u65, u66, u67, u68, u69, u70, u71, u72, u73, u74, u75, u76, u77, u78, u79, u80, u81, u82, u83, u84, u85, u86, u87, u88, u89, u90, u91, u92, u93, u94, u95, u96, u97, u98, u99, u100, u101, u102, u103, u104, u105, u106, σ107, σ108, σ109, σ110, σ111, σ112, σ113, σ114, σ115, σ116, σ117, σ118, σ119, σ120, σ121, σ122, σ123, σ124, σ125, σ126, σ127, σ128, σ129, σ130, σ131, σ132, σ133, σ134, σ135, σ136, σ137, σ138, σ139, σ140, σ141, σ142, σ143, σ144, σ145, σ146, σ147, σ148, σ149, σ150, σ151, σ152, σ153, σ154, σ155, σ156, σ157, σ158, σ159, σ160, σ161, σ162, σ163, σ164, σ165, σ166, σ167, σ168, σ169, σ170, σ171, σ172, σ173, σ174, σ175, σ176, σ177, σ178, σ179, σ180, σ181, σ182, σ183, σ184, σ185, σ186, σ187, σ188, σ189, σ190, σ191, σ192, σ193, σ194, σ195, σ196, σ197, σ198], []⟩) → K a' w') :
    Code.wp Try.prog (nreg 15) (Exit.then K Q) ⟨#[σ0, .slice (some ⟨b, off, none⟩) n c, .int .i64 (n : Int), .int .i64 (I : Int), .slice ap lp cp, .int .i64 0, .slice aq lp cq, σ7, σ8, σ9, σ10, σ11, σ12, σ13, σ14, σ15, σ16, σ17, σ18, σ19, σ20, σ21, σ22, σ23, σ24, σ25, σ26, σ27, σ28, σ29, σ30, σ31, σ32, σ33, σ34, σ35, σ36, σ37, σ38, σ39, σ40, σ41, σ42, σ43, σ44, σ45, σ46, σ47, σ48, σ49, σ50, σ51, σ52, σ53, σ54, σ55, σ56, σ57, σ58, σ59, σ60, σ61, σ62, σ63, σ64, σ65, σ66, σ67, σ68, σ69, σ70, σ71, σ72, σ73, σ74, σ75, σ76, σ77, σ78, σ79, σ80, σ81, σ82, σ83, σ84, σ85, σ86, σ87, σ88, σ89, σ90, σ91, σ92, σ93, σ94, σ95, σ96, σ97, σ98, σ99, σ100, σ101, σ102, σ103, σ104, σ105, σ106, σ107, σ108, σ109, σ110, σ111, σ112, σ113, σ114, σ115, σ116, σ117, σ118, σ119, σ120, σ121, σ122, σ123, σ124, σ125, σ126, σ127, σ128, σ129, σ130, σ131, σ132, σ133, σ134, σ135, σ136, σ137, σ138, σ139, σ140, σ141, σ142, σ143, σ144, σ145, σ146, σ147, σ148, σ149, σ150, σ151, σ152, σ153, σ154, σ155, σ156, σ157, σ158, σ159, σ160, σ161, σ162, σ163, σ164, σ165, σ166, σ167, σ168, σ169, σ170, σ171, σ172, σ173, σ174, σ175, σ176, σ177, σ178, σ179, σ180, σ181, σ182, σ183, σ184, σ185, σ186, σ187, σ188, σ189, σ190, σ191, σ192, σ193, σ194, σ195, σ196, σ197, σ198], []⟩ wk := by
  conv => arg 2; whnf
  refine wp_cut _ hR ?_
  intro J K' hJ hM
  clear hR
  have e1 : (0 : Int) ≤ (I : Int) := by omega
  have e2 : (I : Int) < (n : Int) := by omega
  have g7 : ¬ (0 : Int) < (lp : Int) := by omega
  obtain ⟨wd, hwd⟩ : ∃ wd, wd = wk.drew := ⟨_, rfl⟩
  have hb : Below wk.heap.size wk wd := by rw [hwd]; exact (Below.refl _ _).drew
  have hL := hL.below hb
  have hO := hO.below hb
  have hPL := hPL.below hb
  have hQL := hQL.below hb
  have hBl := hBl.below hb
  have hCl := hCl.below hb
  have hE := hE.step hb
  clear hb
  refine held_start (by kernel_rfl) (fun hHeld => ?_)
  rw [← hwd] at hHeld ⊢
  clear hwd
  refine held_take (i := 0) (v := ?_) 50 rfl (by kernel_rfl) (by kernel_rfl) (by kernel_rfl) (fun c a w h => hQp c _ _ a w h) rfl (by assumption) (Or.inl ⟨by rfl, ?_⟩) ?_
  rotate_left
  · intro w hSw; go_simp; (try with_reducible rfl)
  simp only [List.set_cons_zero, List.set_cons_succ]
  refine held_take (i := 1) (v := ?_) 51 rfl (by kernel_rfl) (by kernel_rfl) (by kernel_rfl) (fun c a w h => hQp c _ _ a w h) rfl (by assumption) (Or.inl ⟨by rfl, ?_⟩) ?_
  rotate_left
  · intro w hSw; go_simp; (try with_reducible rfl)
  simp only [List.set_cons_zero, List.set_cons_succ]
  refine held_take (i := 2) (v := ?_) 52 rfl (by kernel_rfl) (by kernel_rfl) (by kernel_rfl) (fun c a w h => hQp c _ _ a w h) rfl (by assumption) (Or.inl ⟨by rfl, ?_⟩) ?_
  rotate_left
  · intro w hSw; go_simp; (try with_reducible rfl)
  simp only [List.set_cons_zero, List.set_cons_succ]
  refine held_take (i := 3) (v := ?_) 53 rfl (by kernel_rfl) (by kernel_rfl) (by kernel_rfl) (fun c a w h => hQp c _ _ a w h) rfl (by assumption) (Or.inl ⟨by rfl, ?_⟩) ?_
  rotate_left
  · intro w hSw; go_simp; (try with_reducible rfl)
  simp only [List.set_cons_zero, List.set_cons_succ]
  refine held_take (i := 4) (v := ?_) 54 rfl (by kernel_rfl) (by kernel_rfl) (by kernel_rfl) (fun c a w h => hQp c _ _ a w h) rfl (by assumption) (Or.inl ⟨by rfl, ?_⟩) ?_
  rotate_left
  · intro w hSw; go_simp; (try with_reducible rfl)
  simp only [List.set_cons_zero, List.set_cons_succ]
  refine wpAnyH_ready (rs := [5]) (by kernel_rfl) (by simp) ?_
  refine (AllReadyH.cons rfl (fun K hK => ?_) AllReadyH.nil)
  go_simp
  refine (lists_same _ _ lp _ _ ps _ (hPL.below hHeld) (hQL.below hHeld) (by omega)).mono ?_
  rintro e w1x ⟨rfl, hb⟩
  have hbt := HB.trans hHeld hb
  go_wp2_with fail
  refine hK.out _ _ hbt (fun _ => ?_)
  clear hK hHeld K
  have hHeld := hbt
  clear hb hbt
  refine held_take (i := 6) (v := ?_) 56 rfl (by kernel_rfl) (by kernel_rfl) (by kernel_rfl) (fun c a w h => hQp c _ _ a w h) rfl (by assumption) (Or.inl ⟨by rfl, ?_⟩) ?_
  rotate_left
  · intro w hSw; go_simp; (try with_reducible rfl)
  simp only [List.set_cons_zero, List.set_cons_succ]
  refine held_take (i := 7) (v := ?_) 57 rfl (by kernel_rfl) (by kernel_rfl) (by kernel_rfl) (fun c a w h => hQp c _ _ a w h) rfl (by assumption) (Or.inl ⟨by rfl, ?_⟩) ?_
  rotate_left
  · intro w hSw; go_simp; (try with_reducible rfl)
  simp only [List.set_cons_zero, List.set_cons_succ]
  refine held_take (i := 8) (v := ?_) 58 rfl (by kernel_rfl) (by kernel_rfl) (by kernel_rfl) (fun c a w h => hQp c _ _ a w h) rfl (by assumption) (Or.inl ⟨by rfl, ?_⟩) ?_
  rotate_left
  · intro w hSw; go_simp; (try with_reducible rfl)
  simp only [List.set_cons_zero, List.set_cons_succ]
  refine held_take (i := 9) (v := ?_) 59 rfl (by kernel_rfl) (by kernel_rfl) (by kernel_rfl) (fun c a w h => hQp c _ _ a w h) rfl (by assumption) (Or.inl ⟨by rfl, ?_⟩) ?_
  rotate_left
  · intro w hSw; go_simp; (try with_reducible rfl)
  simp only [List.set_cons_zero, List.set_cons_succ]
  refine held_take (i := 11) (v := ?_) 61 rfl (by kernel_rfl) (by kernel_rfl) (by kernel_rfl) (fun c a w h => hQp c _ _ a w h) rfl (by assumption) (Or.inl ⟨by rfl, ?_⟩) ?_
  rotate_left
  · intro w hSw; go_simp; (try with_reducible rfl)
  simp only [List.set_cons_zero, List.set_cons_succ]
  refine held_take (i := 12) (v := ?_) 62 rfl (by kernel_rfl) (by kernel_rfl) (by kernel_rfl) (fun c a w h => hQp c _ _ a w h) rfl (by assumption) (Or.inl ⟨by rfl, ?_⟩) ?_
  rotate_left
  · intro w hSw; go_simp; (try with_reducible rfl)
  simp only [List.set_cons_zero, List.set_cons_succ]
  refine held_take (i := 13) (v := ?_) 63 rfl (by kernel_rfl) (by kernel_rfl) (by kernel_rfl) (fun c a w h => hQp c _ _ a w h) rfl (by assumption) (Or.inl ⟨by rfl, ?_⟩) ?_
  rotate_left
  · intro w hSw; go_simp; (try with_reducible rfl)
  simp only [List.set_cons_zero, List.set_cons_succ]
  refine held_take (i := 14) (v := ?_) 64 rfl (by kernel_rfl) (by kernel_rfl) (by kernel_rfl) (fun c a w h => hQp c _ _ a w h) rfl (by assumption) (Or.inl ⟨by rfl, ?_⟩) ?_
  rotate_left
  · intro w hSw; have hc := (hCl.below hSw).2; go_simp; (try with_reducible rfl)
  simp only [List.set_cons_zero, List.set_cons_succ]
  refine held_take (i := 15) (v := ?_) 65 rfl (by kernel_rfl) (by kernel_rfl) (by kernel_rfl) (fun c a w h => hQp c _ _ a w h) rfl (by assumption) (Or.inl ⟨by rfl, ?_⟩) ?_
  rotate_left
  · intro w hSw; go_simp; (try with_reducible rfl)
  simp only [List.set_cons_zero, List.set_cons_succ]
  refine held_take (i := 16) (v := ?_) 66 rfl (by kernel_rfl) (by kernel_rfl) (by kernel_rfl) (fun c a w h => hQp c _ _ a w h) rfl (by assumption) (Or.inl ⟨by rfl, ?_⟩) ?_
  rotate_left
  · intro w hSw; go_simp; (try with_reducible rfl)
  simp only [List.set_cons_zero, List.set_cons_succ]
  refine held_take (i := 17) (v := ?_) 67 rfl (by kernel_rfl) (by kernel_rfl) (by kernel_rfl) (fun c a w h => hQp c _ _ a w h) rfl (by assumption) (Or.inl ⟨by rfl, ?_⟩) ?_
  rotate_left
  · intro w hSw; go_simp; (try with_reducible rfl)
  simp only [List.set_cons_zero, List.set_cons_succ]
  refine wpAnyH_ready (rs := [10]) (by kernel_rfl) (by simp) ?_
  refine (AllReadyH.cons rfl (fun K hK => ?_) AllReadyH.nil)
  go_simp
  refine (rroot_any n _ c L _ (hL.below hHeld) HS.out (by omega)).mono ?_
  rintro e w2x ⟨v10, rfl, ho10, hb⟩
  have hbt := HB.trans hHeld hb
  obtain ⟨a10, c10, rfl, hB10⟩ := ho10.bsn (n := 32) (mroot_length _)
  clear ho10
  go_wp2_with fail
  refine hK.out _ _ hbt (fun _ => ?_)
  clear hK hHeld K
  have hHeld := hbt
  clear hb hbt
  refine wpAnyH_ready (rs := [18]) (by kernel_rfl) (by simp) ?_
  refine (AllReadyH.cons rfl (fun K hK => ?_) AllReadyH.nil)
  go_simp
  refine (check_eq _ _ _ _ _ _ _ _ (I : Int) (n : Int) _ _ _ _ true _ hB10 (hBl.below hHeld) (hQL.below hHeld) HPS.out hml (by omega) (by omega) HC1.out).mono ?_
  rintro e w3x ⟨rfl, hb⟩
  have hbt := HB.trans hHeld hb
  have hB10 := hB10.below hb
  go_wp2_with fail
  refine hK.out _ _ hbt (fun _ => ?_)
  clear hK hHeld K
  have hHeld := hbt
  clear hb hbt
  refine held_take (i := 19) (v := ?_) 69 rfl (by kernel_rfl) (by kernel_rfl) (by kernel_rfl) (fun c a w h => hQp c _ _ a w h) rfl (by assumption) (Or.inl ⟨by rfl, ?_⟩) ?_
  rotate_left
  · intro w hSw; go_simp; (try with_reducible rfl)
  simp only [List.set_cons_zero, List.set_cons_succ]
  refine held_take (i := 20) (v := ?_) 70 rfl (by kernel_rfl) (by kernel_rfl) (by kernel_rfl) (fun c a w h => hQp c _ _ a w h) rfl (by assumption) (Or.inl ⟨by rfl, ?_⟩) ?_
  rotate_left
  · intro w hSw; go_simp; (try with_reducible rfl)
  simp only [List.set_cons_zero, List.set_cons_succ]
  refine held_take (i := 21) (v := ?_) 71 rfl (by kernel_rfl) (by kernel_rfl) (by kernel_rfl) (fun c a w h => hQp c _ _ a w h) rfl (by assumption) (Or.inl ⟨by rfl, ?_⟩) ?_
  rotate_left
  · intro w hSw; go_simp; (try with_reducible rfl)
  simp only [List.set_cons_zero, List.set_cons_succ]
  refine held_take (i := 22) (v := ?_) 72 rfl (by kernel_rfl) (by kernel_rfl) (by kernel_rfl) (fun c a w h => hQp c _ _ a w h) rfl (by assumption) (Or.inl ⟨by rfl, ?_⟩) ?_
  rotate_left
  · intro w hSw; go_simp; (try with_reducible rfl)
  simp only [List.set_cons_zero, List.set_cons_succ]
  refine held_take (i := 24) (v := ?_) 74 rfl (by kernel_rfl) (by kernel_rfl) (by kernel_rfl) (fun c a w h => hQp c _ _ a w h) rfl (by assumption) (Or.inl ⟨by rfl, ?_⟩) ?_
  rotate_left
  · intro w hSw; go_simp; (try with_reducible rfl)
  simp only [List.set_cons_zero, List.set_cons_succ]
  refine held_take (i := 25) (v := ?_) 75 rfl (by kernel_rfl) (by kernel_rfl) (by kernel_rfl) (fun c a w h => hQp c _ _ a w h) rfl (by assumption) (Or.inl ⟨by rfl, ?_⟩) ?_
  rotate_left
  · intro w hSw; go_simp; (try with_reducible rfl)
  simp only [List.set_cons_zero, List.set_cons_succ]
  refine held_take (i := 26) (v := ?_) 76 rfl (by kernel_rfl) (by kernel_rfl) (by kernel_rfl) (fun c a w h => hQp c _ _ a w h) rfl (by assumption) (Or.inl ⟨by rfl, ?_⟩) ?_
  rotate_left
  · intro w hSw; go_simp; (try with_reducible rfl)
  simp only [List.set_cons_zero, List.set_cons_succ]
  refine held_take (i := 27) (v := ?_) 77 rfl (by kernel_rfl) (by kernel_rfl) (by kernel_rfl) (fun c a w h => hQp c _ _ a w h) rfl (by assumption) (Or.inl ⟨by rfl, ?_⟩) ?_
  rotate_left
  · intro w hSw; have hc := (hCl.below hSw).2; go_simp; (try with_reducible rfl)
  simp only [List.set_cons_zero, List.set_cons_succ]
  refine held_take (i := 28) (v := ?_) 78 rfl (by kernel_rfl) (by kernel_rfl) (by kernel_rfl) (fun c a w h => hQp c _ _ a w h) rfl (by assumption) (Or.inl ⟨by rfl, ?_⟩) ?_
  rotate_left
  · intro w hSw; go_simp; (try with_reducible rfl)
  simp only [List.set_cons_zero, List.set_cons_succ]
  refine held_take (i := 29) (v := ?_) 79 rfl (by kernel_rfl) (by kernel_rfl) (by kernel_rfl) (fun c a w h => hQp c _ _ a w h) rfl (by assumption) (Or.inl ⟨by rfl, ?_⟩) ?_
  rotate_left
  · intro w hSw; go_simp; (try with_reducible rfl)
  simp only [List.set_cons_zero, List.set_cons_succ]
  refine held_take (i := 31) (v := ?_) 81 rfl (by kernel_rfl) (by kernel_rfl) (by kernel_rfl) (fun c a w h => hQp c _ _ a w h) rfl (by assumption) (Or.inl ⟨by rfl, ?_⟩) ?_
  rotate_left
  · intro w hSw; go_simp; (try with_reducible rfl)
  simp only [List.set_cons_zero, List.set_cons_succ]
  refine held_take (i := 33) (v := ?_) 83 rfl (by kernel_rfl) (by kernel_rfl) (by kernel_rfl) (fun c a w h => hQp c _ _ a w h) rfl (by assumption) (Or.inl ⟨by rfl, ?_⟩) ?_
  rotate_left
  · intro w hSw; go_simp; (try with_reducible rfl)
  simp only [List.set_cons_zero, List.set_cons_succ]
  refine wpAnyH_ready (rs := [23, 30]) (by kernel_rfl) (by simp) ?_
  refine (AllReadyH.cons rfl (fun K hK => ?_) (AllReadyH.cons rfl (fun K hK => ?_) AllReadyH.nil))
  · go_simp
    refine (rroot_any n _ c L _ (hL.below hHeld) HS.out (by omega)).mono ?_
    rintro e w4x ⟨v23, rfl, ho23, hb⟩
    have hbt := HB.trans hHeld hb
    have hB10 := hB10.below hb
    obtain ⟨a23, c23, rfl, hB23⟩ := ho23.bsn (n := 32) (mroot_length _)
    have hhi23 : ∀ ad, a23 = some ad → ad.block < w4x.heap.size := fun ad h => hB23.blk' (by omega) ad h
    clear ho23
    go_wp2_with fail
    refine hK.out _ _ hbt (fun _ => ?_)
    clear hK hHeld K
    have hHeld := hbt
    clear hb hbt
    refine wpAnyH_ready (rs := [30]) (by kernel_rfl) (by simp) ?_
    refine (AllReadyH.cons rfl (fun K hK => ?_) AllReadyH.nil)
    go_simp
    have hb : HB w4x (w4x.alloc (.cells #[] TBS)) := (HB.refl _).alloc _
    have hbt := HB.trans hHeld hb
    have hB10 := hB10.below hb
    have hB23 := hB23.below hb
    have hO30 := (OwnL.none w4x).weaken (B := wd.heap.size) (Below.size hHeld)
    have hFlt : w4x.heap.size < (w4x.alloc (.cells #[] TBS)).heap.size := by simp
    have hFge := Below.size hHeld
    have hne : ∀ ad, a23 = some ad → ad.block ≠ w4x.heap.size := fun ad h e => by have := hhi23 ad h; omega
    generalize w4x.alloc (.cells #[] TBS) = w5x at *
    refine hK.out _ _ hbt (fun _ => ?_)
    clear hK hHeld K
    have hHeld := hbt
    clear hb hbt
    refine wpAnyH_ready (rs := [32]) (by kernel_rfl) (by simp) ?_
    refine (AllReadyH.cons rfl (fun K hK => ?_) AllReadyH.nil)
    refine step_append_ll (by rfl) (.tmp 80) (.tmp 81) rfl wd.heap.size (.slice (some ⟨w4x.heap.size, 0, none⟩) 0 0) [] ?_ hO30 _ lp _ ps ?_ (hQL.below hHeld) (hQL.apart hHeld (fun k hk => (hO30.lt k hk).1)) (by simp; omega) (Below.size hHeld) (fun v32 w6x hO32 hg hown => ?_)
    rfl
    rfl
    have hne32 : ∀ ad, a23 = some ad → v32.ownBlock ≠ some ad.block := fun ad h e => by (rcases hown with q | q; (rw [q] at e; have e : some w4x.heap.size = some ad.block := e; injection e with e; exact hne ad h e.symm); (rw [q] at e; injection e with e; have := hB23.blk' (by omega) ad h; omega))
    have hB23 := hB23.grown hg (fun _ ad h e => hne ad h (by have e : some w4x.heap.size = some ad.block := e; injection e with e; exact e.symm))
    have hbt : HB wd w6x := Below.grown hHeld hg (Below.size hHeld) (fun k hk => (hO30.lt k hk).1)
    have hlt32 := hO32.lt
    rw [List.nil_append] at hO32
    clear hg hown
    go_wp2_with fail
    refine hK.out _ _ hbt (fun _ => ?_)
    clear hK hHeld K
    have hHeld := hbt
    clear hbt
    refine wpAnyH_ready (rs := [34]) (by kernel_rfl) (by simp) ?_
    refine (AllReadyH.cons rfl (fun K hK => ?_) AllReadyH.nil)
    go_simp
    refine (rroot_any n _ c L _ (hL.below hHeld) HS.out (by omega)).mono ?_
    rintro e w7x ⟨v34, rfl, ho34, hb⟩
    have hbt := HB.trans hHeld hb
    have hB23 := hB23.below hb
    have hO32 := hO32.below hb
    obtain ⟨a34, c34, rfl, hB34⟩ := ho34.bsn (n := 32) (mroot_length _)
    have hap34 : 0 < 32 → ∀ x, a34 = some x → v32.ownBlock ≠ some x.block := fun _ x h e => by have h1 := ho34.new_blk x h; have h2 := (hlt32 _ e).2; omega
    have hsz := Below.size hbt
    clear ho34
    go_wp2_with fail
    refine hK.out _ _ hbt (fun _ => ?_)
    clear hK hHeld K
    have hHeld := hbt
    clear hb hbt
    refine wpAnyH_ready (rs := [35]) (by kernel_rfl) (by simp) ?_
    refine (AllReadyH.cons rfl (fun K hK => ?_) AllReadyH.nil)
    go_simp
    have hb : HB w7x (w7x.alloc (.cells #[.slice a34 32 c34] TBS)) := (HB.refl _).alloc _
    have hbt := HB.trans hHeld hb
    refine hK.out _ _ hbt (fun _ => ?_)
    clear hK hHeld K
    have hHeld := hbt
    clear hb hbt
    refine wpAnyH_ready (rs := [36]) (by kernel_rfl) (by simp) ?_
    refine (AllReadyH.cons rfl (fun K hK => ?_) AllReadyH.nil)
    refine step_append_row (by rfl) (.tmp 82) (.tmp 85) rfl ?_ wd.heap.size v32 _ ?_ hO32 _ _ _ _ hB34 hap34 (by rw [HPL.out]; omega) hsz (fun v36 w9x hO36 hg => ?_)
    rfl
    rfl
    have hB23 := (hB23.alloc (.cells #[.slice a34 32 c34] TBS)).grown hg (fun _ ad h e => hne32 ad h e)
    have hbt : HB wd w9x := Below.grown hHeld hg (Below.size hHeld) (fun k hk => (hlt32 k hk).1)
    clear hg
    obtain ⟨a36, c36, rfl, hL36⟩ := hO36.ll (n := lp + 1) (by rw [List.length_append, HPL.out]; rfl)
    clear hO36
    go_wp2_with fail
    refine hK.out _ _ hbt (fun _ => ?_)
    clear hK hHeld K
    have hHeld := hbt
    clear hbt
    refine wpAnyH_ready (rs := [37]) (by kernel_rfl) (by simp) ?_
    refine (AllReadyH.cons rfl (fun K hK => ?_) AllReadyH.nil)
    go_simp
    refine (check_eq _ _ _ _ _ _ _ _ (I : Int) (n : Int) _ _ _ _ false _ hB23 (hBl.below hHeld) hL36 HPS3.out hml (by omega) (by omega) HC3.out).mono ?_
    rintro e w10x ⟨rfl, hb⟩
    have hbt := HB.trans hHeld hb
    have hB23 := hB23.below hb
    have hL36 := hL36.below hb
    go_wp2_with fail
    refine hK.out _ _ hbt (fun _ => ?_)
    clear hK hHeld K
    have hHeld := hbt
    clear hb hbt
    refine held_take (i := 38) (v := ?_) 88 rfl (by kernel_rfl) (by kernel_rfl) (by kernel_rfl) (fun c a w h => hQp c _ _ a w h) rfl (by assumption) (Or.inl ⟨by rfl, ?_⟩) ?_
    rotate_left
    · intro w hSw; go_simp; (try with_reducible rfl)
    simp only [List.set_cons_zero, List.set_cons_succ]
    refine held_take (i := 39) (v := ?_) 89 rfl (by kernel_rfl) (by kernel_rfl) (by kernel_rfl) (fun c a w h => hQp c _ _ a w h) rfl (by assumption) (Or.inl ⟨by rfl, ?_⟩) ?_
    rotate_left
    · intro w hSw; go_simp; (try with_reducible rfl)
    simp only [List.set_cons_zero, List.set_cons_succ]
    refine held_take (i := 40) (v := ?_) 90 rfl (by kernel_rfl) (by kernel_rfl) (by kernel_rfl) (fun c a w h => hQp c _ _ a w h) rfl (by assumption) (Or.inl ⟨by rfl, ?_⟩) ?_
    rotate_left
    · intro w hSw; go_simp; (try with_reducible rfl)
    simp only [List.set_cons_zero, List.set_cons_succ]
    refine held_take (i := 41) (v := ?_) 91 rfl (by kernel_rfl) (by kernel_rfl) (by kernel_rfl) (fun c a w h => hQp c _ _ a w h) rfl (by assumption) (Or.inl ⟨by rfl, ?_⟩) ?_
    rotate_left
    · intro w hSw; go_simp; (try with_reducible rfl)
    simp only [List.set_cons_zero, List.set_cons_succ]
    refine held_take (i := 42) (v := ?_) 92 rfl (by kernel_rfl) (by kernel_rfl) (by kernel_rfl) (fun c a w h => hQp c _ _ a w h) rfl (by assumption) (Or.inl ⟨by rfl, ?_⟩) ?_
    rotate_left
    · intro w hSw; go_simp; (try with_reducible rfl)
    simp only [List.set_cons_zero, List.set_cons_succ]
    refine held_take (i := 43) (v := ?_) 93 rfl (by kernel_rfl) (by kernel_rfl) (by kernel_rfl) (fun c a w h => hQp c _ _ a w h) rfl (by assumption) (Or.inl ⟨by rfl, ?_⟩) ?_
    rotate_left
    · intro w hSw; go_simp; (try with_reducible rfl)
    simp only [List.set_cons_zero, List.set_cons_succ]
    refine held_take (i := 44) (v := undef) 94 rfl (by kernel_rfl) (by kernel_rfl) (by kernel_rfl) (fun c a w h => hQp c _ _ a w h) rfl (by assumption) (Or.inr ⟨by rfl, rfl⟩) ?_
    simp only [List.set_cons_zero, List.set_cons_succ]
    refine held_take (i := 45) (v := undef) 95 rfl (by kernel_rfl) (by kernel_rfl) (by kernel_rfl) (fun c a w h => hQp c _ _ a w h) rfl (by assumption) (Or.inr ⟨by rfl, rfl⟩) ?_
    simp only [List.set_cons_zero, List.set_cons_succ]
    refine held_take (i := 46) (v := undef) 96 rfl (by kernel_rfl) (by kernel_rfl) (by kernel_rfl) (fun c a w h => hQp c _ _ a w h) rfl (by assumption) (Or.inr ⟨by rfl, rfl⟩) ?_
    simp only [List.set_cons_zero, List.set_cons_succ]
    refine held_take (i := 47) (v := undef) 97 rfl (by kernel_rfl) (by kernel_rfl) (by kernel_rfl) (fun c a w h => hQp c _ _ a w h) rfl (by assumption) (Or.inr ⟨by rfl, rfl⟩) ?_
    simp only [List.set_cons_zero, List.set_cons_succ]
    refine held_take (i := 48) (v := undef) 98 rfl (by kernel_rfl) (by kernel_rfl) (by kernel_rfl) (fun c a w h => hQp c _ _ a w h) rfl (by assumption) (Or.inr ⟨by rfl, rfl⟩) ?_
    simp only [List.set_cons_zero, List.set_cons_succ]
    refine held_take (i := 49) (v := undef) 99 rfl (by kernel_rfl) (by kernel_rfl) (by kernel_rfl) (fun c a w h => hQp c _ _ a w h) rfl (by assumption) (Or.inr ⟨by rfl, rfl⟩) ?_
    simp only [List.set_cons_zero, List.set_cons_succ]
    refine held_take (i := 50) (v := undef) 100 rfl (by kernel_rfl) (by kernel_rfl) (by kernel_rfl) (fun c a w h => hQp c _ _ a w h) rfl (by assumption) (Or.inr ⟨by rfl, rfl⟩) ?_
    simp only [List.set_cons_zero, List.set_cons_succ]
    refine held_take (i := 51) (v := undef) 101 rfl (by kernel_rfl) (by kernel_rfl) (by kernel_rfl) (fun c a w h => hQp c _ _ a w h) rfl (by assumption) (Or.inr ⟨by rfl, rfl⟩) ?_
    simp only [List.set_cons_zero, List.set_cons_succ]
    refine held_take (i := 52) (v := undef) 102 rfl (by kernel_rfl) (by kernel_rfl) (by kernel_rfl) (fun c a w h => hQp c _ _ a w h) rfl (by assumption) (Or.inr ⟨by rfl, rfl⟩) ?_
    simp only [List.set_cons_zero, List.set_cons_succ]
    refine held_take (i := 53) (v := undef) 103 rfl (by kernel_rfl) (by kernel_rfl) (by kernel_rfl) (fun c a w h => hQp c _ _ a w h) rfl (by assumption) (Or.inr ⟨by rfl, rfl⟩) ?_
    simp only [List.set_cons_zero, List.set_cons_succ]
    refine held_take (i := 54) (v := undef) 104 rfl (by kernel_rfl) (by kernel_rfl) (by kernel_rfl) (fun c a w h => hQp c _ _ a w h) rfl (by assumption) (Or.inr ⟨by rfl, rfl⟩) ?_
    simp only [List.set_cons_zero, List.set_cons_succ]
    refine held_take (i := 55) (v := ?_) 105 rfl (by kernel_rfl) (by kernel_rfl) (by kernel_rfl) (fun c a w h => hQp c _ _ a w h) rfl (by assumption) (Or.inl ⟨by rfl, ?_⟩) ?_
    rotate_left
    · intro w hSw; go_simp; (try with_reducible rfl)
    simp only [List.set_cons_zero, List.set_cons_succ]
    refine held_take (i := 56) (v := ?_) 106 rfl (by kernel_rfl) (by kernel_rfl) (by kernel_rfl) (fun c a w h => hQp c _ _ a w h) rfl (by assumption) (Or.inl ⟨by rfl, ?_⟩) ?_
    rotate_left
    · intro w hSw; go_simp; (try with_reducible rfl)
    simp only [List.set_cons_zero, List.set_cons_succ]
    refine wpAnyH_done (by kernel_rfl) ?_ _
    go_wp2_with fail
    go_meet
    exact ⟨rfl, hO.below hHeld, hL.below hHeld, hE.step hHeld⟩
  · go_simp
    have hb : HB w3x (w3x.alloc (.cells #[] TBS)) := (HB.refl _).alloc _
    have hbt := HB.trans hHeld hb
    have hB10 := hB10.below hb
    have hO30 := (OwnL.none w3x).weaken (B := wd.heap.size) (Below.size hHeld)
    have hFlt : w3x.heap.size < (w3x.alloc (.cells #[] TBS)).heap.size := by simp
    have hFge := Below.size hHeld
    generalize w3x.alloc (.cells #[] TBS) = w11x at *
    refine hK.out _ _ hbt (fun _ => ?_)
    clear hK hHeld K
    have hHeld := hbt
    clear hb hbt
    refine wpAnyH_ready (rs := [23]) (by kernel_rfl) (by simp) ?_
    refine (AllReadyH.cons rfl (fun K hK => ?_) AllReadyH.nil)
    go_simp
    refine (rroot_any n _ c L _ (hL.below hHeld) HS.out (by omega)).mono ?_
    rintro e w12x ⟨v23, rfl, ho23, hb⟩
    have hbt := HB.trans hHeld hb
    have hB10 := hB10.below hb
    have hO30 := hO30.below hb
    obtain ⟨a23, c23, rfl, hB23⟩ := ho23.bsn (n := 32) (mroot_length _)
    have hne : ∀ ad, a23 = some ad → ad.block ≠ w3x.heap.size := fun ad h e => by have h1 := ho23.new_blk ad h; have h2 := hFlt; omega
    have hhi23 : ∀ ad, a23 = some ad → ad.block < w12x.heap.size := fun ad h => hB23.blk' (by omega) ad h
    clear ho23
    go_wp2_with fail
    refine hK.out _ _ hbt (fun _ => ?_)
    clear hK hHeld K
    have hHeld := hbt
    clear hb hbt
    refine wpAnyH_ready (rs := [32]) (by kernel_rfl) (by simp) ?_
    refine (AllReadyH.cons rfl (fun K hK => ?_) AllReadyH.nil)
    refine step_append_ll (by rfl) (.tmp 80) (.tmp 81) rfl wd.heap.size (.slice (some ⟨w3x.heap.size, 0, none⟩) 0 0) [] ?_ hO30 _ lp _ ps ?_ (hQL.below hHeld) (hQL.apart hHeld (fun k hk => (hO30.lt k hk).1)) (by simp; omega) (Below.size hHeld) (fun v32 w13x hO32 hg hown => ?_)
    rfl
    rfl
    have hne32 : ∀ ad, a23 = some ad → v32.ownBlock ≠ some ad.block := fun ad h e => by (rcases hown with q | q; (rw [q] at e; have e : some w3x.heap.size = some ad.block := e; injection e with e; exact hne ad h e.symm); (rw [q] at e; injection e with e; have := hB23.blk' (by omega) ad h; omega))
    have hB23 := hB23.grown hg (fun _ ad h e => hne ad h (by have e : some w3x.heap.size = some ad.block := e; injection e with e; exact e.symm))
    have hbt : HB wd w13x := Below.grown hHeld hg (Below.size hHeld) (fun k hk => (hO30.lt k hk).1)
    have hlt32 := hO32.lt
    rw [List.nil_append] at hO32
    clear hg hown
    go_wp2_with fail
    refine hK.out _ _ hbt (fun _ => ?_)
    clear hK hHeld K
    have hHeld := hbt
    clear hbt
    refine wpAnyH_ready (rs := [34]) (by kernel_rfl) (by simp) ?_
    refine (AllReadyH.cons rfl (fun K hK => ?_) AllReadyH.nil)
    go_simp
    refine (rroot_any n _ c L _ (hL.below hHeld) HS.out (by omega)).mono ?_
    rintro e w14x ⟨v34, rfl, ho34, hb⟩
    have hbt := HB.trans hHeld hb
    have hB23 := hB23.below hb
    have hO32 := hO32.below hb
    obtain ⟨a34, c34, rfl, hB34⟩ := ho34.bsn (n := 32) (mroot_length _)
    have hap34 : 0 < 32 → ∀ x, a34 = some x → v32.ownBlock ≠ some x.block := fun _ x h e => by have h1 := ho34.new_blk x h; have h2 := (hlt32 _ e).2; omega
    have hsz := Below.size hbt
    clear ho34
    go_wp2_with fail
    refine hK.out _ _ hbt (fun _ => ?_)
    clear hK hHeld K
    have hHeld := hbt
    clear hb hbt
    refine wpAnyH_ready (rs := [35]) (by kernel_rfl) (by simp) ?_
    refine (AllReadyH.cons rfl (fun K hK => ?_) AllReadyH.nil)
    go_simp
    have hb : HB w14x (w14x.alloc (.cells #[.slice a34 32 c34] TBS)) := (HB.refl _).alloc _
    have hbt := HB.trans hHeld hb
    refine hK.out _ _ hbt (fun _ => ?_)
    clear hK hHeld K
    have hHeld := hbt
    clear hb hbt
    refine wpAnyH_ready (rs := [36]) (by kernel_rfl) (by simp) ?_
    refine (AllReadyH.cons rfl (fun K hK => ?_) AllReadyH.nil)
    refine step_append_row (by rfl) (.tmp 82) (.tmp 85) rfl ?_ wd.heap.size v32 _ ?_ hO32 _ _ _ _ hB34 hap34 (by rw [HPL.out]; omega) hsz (fun v36 w16x hO36 hg => ?_)
    rfl
    rfl
    have hB23 := (hB23.alloc (.cells #[.slice a34 32 c34] TBS)).grown hg (fun _ ad h e => hne32 ad h e)
    have hbt : HB wd w16x := Below.grown hHeld hg (Below.size hHeld) (fun k hk => (hlt32 k hk).1)
    clear hg
    obtain ⟨a36, c36, rfl, hL36⟩ := hO36.ll (n := lp + 1) (by rw [List.length_append, HPL.out]; rfl)
    clear hO36
    go_wp2_with fail
    refine hK.out _ _ hbt (fun _ => ?_)
    clear hK hHeld K
    have hHeld := hbt
    clear hbt
    refine wpAnyH_ready (rs := [37]) (by kernel_rfl) (by simp) ?_
    refine (AllReadyH.cons rfl (fun K hK => ?_) AllReadyH.nil)
    go_simp
    refine (check_eq _ _ _ _ _ _ _ _ (I : Int) (n : Int) _ _ _ _ false _ hB23 (hBl.below hHeld) hL36 HPS3.out hml (by omega) (by omega) HC3.out).mono ?_
    rintro e w17x ⟨rfl, hb⟩
    have hbt := HB.trans hHeld hb
    have hB23 := hB23.below hb
    have hL36 := hL36.below hb
    go_wp2_with fail
    refine hK.out _ _ hbt (fun _ => ?_)
    clear hK hHeld K
    have hHeld := hbt
    clear hb hbt
    refine held_take (i := 38) (v := ?_) 88 rfl (by kernel_rfl) (by kernel_rfl) (by kernel_rfl) (fun c a w h => hQp c _ _ a w h) rfl (by assumption) (Or.inl ⟨by rfl, ?_⟩) ?_
    rotate_left
    · intro w hSw; go_simp; (try with_reducible rfl)
    simp only [List.set_cons_zero, List.set_cons_succ]
    refine held_take (i := 39) (v := ?_) 89 rfl (by kernel_rfl) (by kernel_rfl) (by kernel_rfl) (fun c a w h => hQp c _ _ a w h) rfl (by assumption) (Or.inl ⟨by rfl, ?_⟩) ?_
    rotate_left
    · intro w hSw; go_simp; (try with_reducible rfl)
    simp only [List.set_cons_zero, List.set_cons_succ]
    refine held_take (i := 40) (v := ?_) 90 rfl (by kernel_rfl) (by kernel_rfl) (by kernel_rfl) (fun c a w h => hQp c _ _ a w h) rfl (by assumption) (Or.inl ⟨by rfl, ?_⟩) ?_
    rotate_left
    · intro w hSw; go_simp; (try with_reducible rfl)
    simp only [List.set_cons_zero, List.set_cons_succ]
    refine held_take (i := 41) (v := ?_) 91 rfl (by kernel_rfl) (by kernel_rfl) (by kernel_rfl) (fun c a w h => hQp c _ _ a w h) rfl (by assumption) (Or.inl ⟨by rfl, ?_⟩) ?_
    rotate_left
    · intro w hSw; go_simp; (try with_reducible rfl)
    simp only [List.set_cons_zero, List.set_cons_succ]
    refine held_take (i := 42) (v := ?_) 92 rfl (by kernel_rfl) (by kernel_rfl) (by kernel_rfl) (fun c a w h => hQp c _ _ a w h) rfl (by assumption) (Or.inl ⟨by rfl, ?_⟩) ?_
    rotate_left
    · intro w hSw; go_simp; (try with_reducible rfl)
    simp only [List.set_cons_zero, List.set_cons_succ]
    refine held_take (i := 43) (v := ?_) 93 rfl (by kernel_rfl) (by kernel_rfl) (by kernel_rfl) (fun c a w h => hQp c _ _ a w h) rfl (by assumption) (Or.inl ⟨by rfl, ?_⟩) ?_
    rotate_left
    · intro w hSw; go_simp; (try with_reducible rfl)
    simp only [List.set_cons_zero, List.set_cons_succ]
    refine held_take (i := 44) (v := undef) 94 rfl (by kernel_rfl) (by kernel_rfl) (by kernel_rfl) (fun c a w h => hQp c _ _ a w h) rfl (by assumption) (Or.inr ⟨by rfl, rfl⟩) ?_
    simp only [List.set_cons_zero, List.set_cons_succ]
    refine held_take (i := 45) (v := undef) 95 rfl (by kernel_rfl) (by kernel_rfl) (by kernel_rfl) (fun c a w h => hQp c _ _ a w h) rfl (by assumption) (Or.inr ⟨by rfl, rfl⟩) ?_
    simp only [List.set_cons_zero, List.set_cons_succ]
    refine held_take (i := 46) (v := undef) 96 rfl (by kernel_rfl) (by kernel_rfl) (by kernel_rfl) (fun c a w h => hQp c _ _ a w h) rfl (by assumption) (Or.inr ⟨by rfl, rfl⟩) ?_
    simp only [List.set_cons_zero, List.set_cons_succ]
    refine held_take (i := 47) (v := undef) 97 rfl (by kernel_rfl) (by kernel_rfl) (by kernel_rfl) (fun c a w h => hQp c _ _ a w h) rfl (by assumption) (Or.inr ⟨by rfl, rfl⟩) ?_
    simp only [List.set_cons_zero, List.set_cons_succ]
    refine held_take (i := 48) (v := undef) 98 rfl (by kernel_rfl) (by kernel_rfl) (by kernel_rfl) (fun c a w h => hQp c _ _ a w h) rfl (by assumption) (Or.inr ⟨by rfl, rfl⟩) ?_
    simp only [List.set_cons_zero, List.set_cons_succ]
    refine held_take (i := 49) (v := undef) 99 rfl (by kernel_rfl) (by kernel_rfl) (by kernel_rfl) (fun c a w h => hQp c _ _ a w h) rfl (by assumption) (Or.inr ⟨by rfl, rfl⟩) ?_
    simp only [List.set_cons_zero, List.set_cons_succ]
    refine held_take (i := 50) (v := undef) 100 rfl (by kernel_rfl) (by kernel_rfl) (by kernel_rfl) (fun c a w h => hQp c _ _ a w h) rfl (by assumption) (Or.inr ⟨by rfl, rfl⟩) ?_
    simp only [List.set_cons_zero, List.set_cons_succ]
    refine held_take (i := 51) (v := undef) 101 rfl (by kernel_rfl) (by kernel_rfl) (by kernel_rfl) (fun c a w h => hQp c _ _ a w h) rfl (by assumption) (Or.inr ⟨by rfl, rfl⟩) ?_
    simp only [List.set_cons_zero, List.set_cons_succ]
    refine held_take (i := 52) (v := undef) 102 rfl (by kernel_rfl) (by kernel_rfl) (by kernel_rfl) (fun c a w h => hQp c _ _ a w h) rfl (by assumption) (Or.inr ⟨by rfl, rfl⟩) ?_
    simp only [List.set_cons_zero, List.set_cons_succ]
    refine held_take (i := 53) (v := undef) 103 rfl (by kernel_rfl) (by kernel_rfl) (by kernel_rfl) (fun c a w h => hQp c _ _ a w h) rfl (by assumption) (Or.inr ⟨by rfl, rfl⟩) ?_
    simp only [List.set_cons_zero, List.set_cons_succ]
    refine held_take (i := 54) (v := undef) 104 rfl (by kernel_rfl) (by kernel_rfl) (by kernel_rfl) (fun c a w h => hQp c _ _ a w h) rfl (by assumption) (Or.inr ⟨by rfl, rfl⟩) ?_
    simp only [List.set_cons_zero, List.set_cons_succ]
    refine held_take (i := 55) (v := ?_) 105 rfl (by kernel_rfl) (by kernel_rfl) (by kernel_rfl) (fun c a w h => hQp c _ _ a w h) rfl (by assumption) (Or.inl ⟨by rfl, ?_⟩) ?_
    rotate_left
    · intro w hSw; go_simp; (try with_reducible rfl)
    simp only [List.set_cons_zero, List.set_cons_succ]
    refine held_take (i := 56) (v := ?_) 106 rfl (by kernel_rfl) (by kernel_rfl) (by kernel_rfl) (fun c a w h => hQp c _ _ a w h) rfl (by assumption) (Or.inl ⟨by rfl, ?_⟩) ?_
    rotate_left
    · intro w hSw; go_simp; (try with_reducible rfl)
    simp only [List.set_cons_zero, List.set_cons_succ]
    refine wpAnyH_done (by kernel_rfl) ?_ _
    go_wp2_with fail
    go_meet
    exact ⟨rfl, hO.below hHeld, hL.below hHeld, hE.step hHeld⟩
end Go.Proofs.Ytaomkjnkfkahhaa
