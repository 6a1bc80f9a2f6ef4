/- Blocks of permafrostref2.Sum. -/
import Derived.Test.YtdglhonogopciaaShaRefa
namespace Go.Proofs.Ytdglhonogopciaa
open Go.RowKit
set_option linter.unusedVariables false

set_option maxHeartbeats 8000000 in
set_option maxRecDepth 1000000 in
theorem rs_sched (w wz : World) (B gm cm gh gk n at0 W : Nat) (m b : List UInt8) (s : S8) (hatn : at0 + 64 ≤ n) (hnQ : n ≤ 1280000) (HBG : Hid (∀ j, b.getD j 0 = m.getD (at0 + j) 0)) (hZ : gm < gh ∧ gh < gk ∧ gk < W ∧ B ≤ gm) (hsW : W < wz.heap.size) (hWz : Wd wz W (part64 b 0)) (hr1 : RInv w B gm cm gh gk m n s.list wz)
    (σ0 σ1 σ2 σ4 σ5 σ6 σ7 σ11 σ12 σ13 σ14 σ15 σ16 σ17 σ18 σ19 σ20 σ21 σ22 σ23 σ24 σ25 σ26 σ27 σ28 σ29 σ30 σ31 σ32 σ33 σ34 σ35 σ36 σ37 σ38 σ39 σ40 σ41 σ42 σ43 σ44 σ45 σ46 σ47 σ48 σ49 σ50 σ51 σ52 σ53 σ54 σ55 σ56 σ57 σ58 σ59 σ60 σ61 σ62 σ63 σ64 σ65 σ66 σ67 σ68 σ69 σ70 σ71 σ72 σ73 σ74 σ75 σ76 σ77 σ78 σ79 σ80 σ81 σ82 σ83 σ84 σ85 σ86 σ87 σ88 σ89 σ90 σ91 σ92 σ93 σ94 σ95 σ96 σ97 σ98 σ99 σ100 σ101 σ102 σ103 σ104 σ105 σ106 σ107 σ108 σ109 σ110 σ111 σ112 σ113 σ114 σ115 σ116 σ117 σ118 σ119 σ120 σ121 σ122 σ123 σ124 σ125 σ126 σ127 σ128 σ129 σ130 σ131 σ132 σ133 σ134 σ135 σ136 σ137 σ138 σ139 σ140 σ141 σ142 σ143 σ144 σ145 σ146 σ147 σ148 σ149 σ150 σ151 σ152 σ153 σ154 σ155 σ156 σ157 σ158 σ159 σ160 σ161 σ162 σ163 σ164 σ165 σ166 σ167 σ168 σ169 σ170 σ171 σ172 σ173 σ174 σ175 σ176 σ177 σ178 σ179 σ180 σ181 σ182 σ183 σ184 σ185 σ186 σ187 σ188 σ189 σ190 σ191 σ192 σ193 σ194 σ195 σ196 σ197 σ198 σ199 σ200 σ201 σ202 σ203 σ204 σ205 σ206 σ207 σ208 σ209 σ210 σ211 σ212 σ213 σ214 σ215 σ216 σ217 σ218 σ219 σ220 σ221 σ222 σ223 σ224 σ225 σ226 σ227 σ228 σ229 σ230 σ231 σ232 σ233 σ234 σ235 σ236 σ237 σ238 σ239 σ240 σ241 σ242 σ243 σ244 σ245 σ246 σ247 σ248 σ249 σ250 σ251 σ252 σ253 σ254 σ255 σ256 σ257 σ258 σ259 σ260 σ261 σ262 σ263 σ264 σ265 σ266 : Value) (K : Act → World → Prop) (Q : Exit → Act → World → Prop)
    (hR : ∀ a' w', (∃ u10 u11 u12 u58 u59 u60 u61 u62 u63 u64 u65 u66 u67 u68 u69 u70 u71 u72 u73 u74 u75 u76 u77 u78 u79 u80 u81 u82 u83 u84 u85 u86 u87 u88 u89 u90 u91 u92 u93 u94 u95 u96 u97 u98 u99 u100 u101 u102 u103 u104 u105 u106 u107 u108 u109 u110 u111 u112 u113 u114 u115 u116 u117 u118 u119 u120 u121 u122 u123 u124 u125 u126 u127 u128 u129 u130 u131 u132 u133 u134 u135 u136 u137 u138 u139 u140 u141 u142 u143 : Value, (Wd w' W (sched b 64) ∧ RInv w B gm cm gh gk m n s.list w') ∧ a' = ⟨#[σ0, σ1, σ2, .slice (some ⟨gm, 0, none⟩) n cm, σ4, σ5, σ6, σ7, .int .i64 (at0 : Int), .pointer (some ⟨W, 0, none⟩), u10, u11, u12, σ13, σ14, σ15, σ16, σ17, σ18, σ19, σ20, σ21, σ22, σ23, σ24, σ25, σ26, σ27, σ28, σ29, σ30, σ31, σ32, σ33, σ34, σ35, σ36, σ37, σ38, σ39, σ40, σ41, σ42, σ43, σ44, σ45, σ46, σ47, σ48, σ49, σ50, σ51, σ52, σ53, σ54, σ55, σ56, σ57, u58, u59, u60, u61, u62, u63, u64, u65, u66, u67, u68, u69, u70, u71, u72, u73, u74, u75, u76, u77, u78, u79, u80, u81, u82, u83, u84, u85, u86, u87, u88, u89, u90, u91, u92, u93, u94, u95, u96, u97, u98, u99, u100, u101, u102, u103, u104, u105, u106, u107, u108, u109, u110, u111, u112, u113, u114, u115, u116, u117, u118, u119, u120, u121, u122, u123, u124, u125, u126, u127, u128, u129, u130, u131, u132, u133, u134, u135, u136, u137, u138, u139, u140, u141, u142, u143, σ144, σ145, σ146, σ147, σ148, σ149, σ150, σ151, σ152, σ153, σ154, σ155, σ156, σ157, σ158, σ159, σ160, σ161, σ162, σ163, σ164, σ165, σ166, σ167, σ168, σ169, σ170, σ171, σ172, σ173, σ174, σ175, σ176, σ177, σ178, σ179, σ180, σ181, σ182, σ183, σ184, σ185, σ186, σ187, σ188, σ189, σ190, σ191, σ192, σ193, σ194, σ195, σ196, σ197, σ198, σ199, σ200, σ201, σ202, σ203, σ204, σ205, σ206, σ207, σ208, σ209, σ210, σ211, σ212, σ213, σ214, σ215, σ216, σ217, σ218, σ219, σ220, σ221, σ222, σ223, σ224, σ225, σ226, σ227, σ228, σ229, σ230, σ231, σ232, σ233, σ234, σ235, σ236, σ237, σ238, σ239, σ240, σ241, σ242, σ243, σ244, σ245, σ246, σ247, σ248, σ249, σ250, σ251, σ252, σ253, σ254, σ255, σ256, σ257, σ258, σ259, σ260, σ261, σ262, σ263, σ264, σ265, σ266], []⟩) → K a' w') :
    Code.wp Try.prog (rblk 6) (Exit.then K Q) ⟨#[σ0, σ1, σ2, .slice (some ⟨gm, 0, none⟩) n cm, σ4, σ5, σ6, σ7, .int .i64 (at0 : Int), .pointer (some ⟨W, 0, none⟩), .int .i64 0, σ11, σ12, σ13, σ14, σ15, σ16, σ17, σ18, σ19, σ20, σ21, σ22, σ23, σ24, σ25, σ26, σ27, σ28, σ29, σ30, σ31, σ32, σ33, σ34, σ35, σ36, σ37, σ38, σ39, σ40, σ41, σ42, σ43, σ44, σ45, σ46, σ47, σ48, σ49, σ50, σ51, σ52, σ53, σ54, σ55, σ56, σ57, σ58, σ59, σ60, σ61, σ62, σ63, σ64, σ65, σ66, σ67, σ68, σ69, σ70, σ71, σ72, σ73, σ74, σ75, σ76, σ77, σ78, σ79, σ80, σ81, σ82, σ83, σ84, σ85, σ86, σ87, σ88, σ89, σ90, σ91, σ92, σ93, σ94, σ95, σ96, σ97, σ98, σ99, σ100, σ101, σ102, σ103, σ104, σ105, σ106, σ107, σ108, σ109, σ110, σ111, σ112, σ113, σ114, σ115, σ116, σ117, σ118, σ119, σ120, σ121, σ122, σ123, σ124, σ125, σ126, σ127, σ128, σ129, σ130, σ131, σ132, σ133, σ134, σ135, σ136, σ137, σ138, σ139, σ140, σ141, σ142, σ143, σ144, σ145, σ146, σ147, σ148, σ149, σ150, σ151, σ152, σ153, σ154, σ155, σ156, σ157, σ158, σ159, σ160, σ161, σ162, σ163, σ164, σ165, σ166, σ167, σ168, σ169, σ170, σ171, σ172, σ173, σ174, σ175, σ176, σ177, σ178, σ179, σ180, σ181, σ182, σ183, σ184, σ185, σ186, σ187, σ188, σ189, σ190, σ191, σ192, σ193, σ194, σ195, σ196, σ197, σ198, σ199, σ200, σ201, σ202, σ203, σ204, σ205, σ206, σ207, σ208, σ209, σ210, σ211, σ212, σ213, σ214, σ215, σ216, σ217, σ218, σ219, σ220, σ221, σ222, σ223, σ224, σ225, σ226, σ227, σ228, σ229, σ230, σ231, σ232, σ233, σ234, σ235, σ236, σ237, σ238, σ239, σ240, σ241, σ242, σ243, σ244, σ245, σ246, σ247, σ248, σ249, σ250, σ251, σ252, σ253, σ254, σ255, σ256, σ257, σ258, σ259, σ260, σ261, σ262, σ263, σ264, σ265, σ266], []⟩ wz := by
  conv => arg 2; whnf
  refine wp_cut _ hR ?_
  intro J K' hJ hM
  clear hR
  go_wp2_with fail
  go_loopw [10] (fun i wr => ∃ k : Nat, k ≤ 64 ∧ i = .int .i64 k ∧ Wd wr W (part64 b k) ∧ RInv w B gm cm gh gk m n s.list wr) (fun i _ => 64 - (intOf i).toNat)
  case atStart => exact ⟨0, by omega, rfl, hWz, hr1⟩
  case round =>
    obtain ⟨k, hk, rfl, hk1, hk2⟩ := hrel
    clear hWz hr1 hsW
    by_cases hlt16 : k < 16
    · have hBs := hk2.bm
      have q := fun j (hj : j < 4) => show wr.cell? ⟨gm, at0 + 4 * k + j, none⟩ = some (.int .u8 ((b.getD (4 * k + j) 0).toNat : Int)) by
        obtain ⟨b1, b2, b3, b4⟩ := hBs
        rcases b4 with b4 | ⟨bb, bo, e1, _, b5⟩
        · omega
        · injection e1 with e1; injection e1 with e1 e2; subst e1 e2
          have := b5 (at0 + 4 * k + j) (by rw [b1]; omega)
          rw [Nat.zero_add] at this
          rw [this, HBG.out, List.getD_eq_getElem?_getD, ← Nat.add_assoc, List.getElem?_eq_getElem (by rw [b1]; omega)]
          rfl
      have q0 := q 0 (by omega); have q1 := q 1 (by omega); have q2 := q 2 (by omega); have q3 := q 3 (by omega)
      rw [Nat.add_zero, Nat.add_zero] at q0
      have hst := part64_set b k (by omega) (wordAt b k) (by rw [if_pos hlt16])
      have hW2 := hk1.set k (by rw [part64_length _ _ (by omega)]; omega) _ hst
      have hE2 := hk2.set (Z := W) k (.int .u32 (wd (wordAt b k))) hZ
      have hc := hk1.cell k 0 (by rw [part64, List.getElem?_append_right (by rw [sched_length]; omega), sched_length, Nat.sub_self, List.getElem?_replicate, if_pos (by omega)])
      have hf := SB.frozen hk1 k
      unfold wordAt at hW2 hE2
      generalize b.getD (4 * k) 0 = x0 at *
      generalize b.getD (4 * k + 1) 0 = x1 at *
      generalize b.getD (4 * k + 2) 0 = x2 at *
      generalize b.getD (4 * k + 3) 0 = x3 at *
      clear hst hk1 hk2 hBs q
      have f1 : IntKind.i64.wrap (4 * (k : Int)) = 4 * (k : Int) := IntWalk.i64_in _ (by omega)
      have f2 : IntKind.i64.wrap ((at0 : Int) + 4 * (k : Int)) = (at0 : Int) + 4 * (k : Int) := IntWalk.i64_in _ (by omega)
      have g1 : IntKind.i64.wrap ((at0 : Int) + 4 * (k : Int) + 1) = (at0 : Int) + 4 * (k : Int) + 1 := IntWalk.i64_in _ (by omega)
      have b1 : (0 : Int) ≤ (at0 : Int) + 4 * (k : Int) + 1 := by omega
      have d1 : (at0 : Int) + 4 * (k : Int) + 1 < (n : Int) := by omega
      have t1 : ((at0 : Int) + 4 * (k : Int) + 1).toNat = at0 + 4 * k + 1 := by omega
      have g2 : IntKind.i64.wrap ((at0 : Int) + 4 * (k : Int) + 2) = (at0 : Int) + 4 * (k : Int) + 2 := IntWalk.i64_in _ (by omega)
      have b2 : (0 : Int) ≤ (at0 : Int) + 4 * (k : Int) + 2 := by omega
      have d2 : (at0 : Int) + 4 * (k : Int) + 2 < (n : Int) := by omega
      have t2 : ((at0 : Int) + 4 * (k : Int) + 2).toNat = at0 + 4 * k + 2 := by omega
      have g3 : IntKind.i64.wrap ((at0 : Int) + 4 * (k : Int) + 3) = (at0 : Int) + 4 * (k : Int) + 3 := IntWalk.i64_in _ (by omega)
      have b3 : (0 : Int) ≤ (at0 : Int) + 4 * (k : Int) + 3 := by omega
      have d3 : (at0 : Int) + 4 * (k : Int) + 3 < (n : Int) := by omega
      have t3 : ((at0 : Int) + 4 * (k : Int) + 3).toNat = at0 + 4 * k + 3 := by omega
      have b0 : (0 : Int) ≤ (at0 : Int) + 4 * (k : Int) := by omega
      have d0 : (at0 : Int) + 4 * (k : Int) < (n : Int) := by omega
      have t0 : ((at0 : Int) + 4 * (k : Int)).toNat = at0 + 4 * k := by omega
      have kk1 : (0 : Int) ≤ (k : Int) := by omega
      have kk2 : (k : Int) < 64 := by omega

      go_upto_region 19 with fail
      refine wp_tailb 43 (by kernel_rfl) (by kernel_rfl) rfl ?_
      simp only [List.take_succ_cons, List.take_zero, List.drop_succ_cons, List.drop_zero, List.map_cons, List.map_nil, bare]
      repeat still_step
      refine wpStill_nil ?_
      clear f1 f2 g1 b1 d1 t1 g2 b2 d2 t2 g3 b3 d3 t3 b0 d0 t0 q0 q1 q2 q3
      go_wp2_with fail
      go_roundw
      case rel =>
        have hex : bits .or .u32 (bits .or .u32 (bits .or .u32 ((x0.toNat : Int) % 4294967296 * (16777216 : Int) % 4294967296) ((x1.toNat : Int) % 4294967296 * (65536 : Int) % 4294967296)) ((x2.toNat : Int) % 4294967296 * (256 : Int) % 4294967296)) ((x3.toNat : Int) % 4294967296) = wd (word x0 x1 x2 x3) := by
          rw [u8_wd, u8_wd, u8_wd, u8_wd, wd_shl8, wd_shl16, wd_shl24, wd_or, wd_or, wd_or, word_comm]
        refine ⟨k + 1, by omega, by go_num, ?_, ?_⟩
        · rw [hex]; exact SB.drew hW2
        · rw [hex]; exact hE2.step (Below.refl _ _).drew
      case measure => simp [intOf]; omega
    · have c15 := hk1.cell (k - 15) _ (part64_at b k (k - 15) (by omega))
      have c2 := hk1.cell (k - 2) _ (part64_at b k (k - 2) (by omega))
      by_cases hlt64 : k < 64
      · have c16 := hk1.cell (k - 16) _ (part64_at b k (k - 16) (by omega))
        have c7 := hk1.cell (k - 7) _ (part64_at b k (k - 7) (by omega))
        have hst := part64_set b k (by omega) (nextW (sched b k) k) (by rw [if_neg (by omega)])
        have hW2 := hk1.set k (by rw [part64_length _ _ (by omega)]; omega) _ hst
        have hE2 := hk2.set (Z := W) k (.int .u32 (wd (nextW (sched b k) k))) hZ
        rw [nextW_sched] at hW2 hE2
        have hc := hk1.cell k 0 (by rw [part64, List.getElem?_append_right (by rw [sched_length]; omega), sched_length, Nat.sub_self, List.getElem?_replicate, if_pos (by omega)])
        have hf := SB.frozen hk1 k
        clear hst hk1 hk2
        unfold sig0 sig1 at hW2 hE2
        generalize (sched b k).getD (k - 15) 0 = x15 at *
        generalize (sched b k).getD (k - 2) 0 = x2 at *
        generalize (sched b k).getD (k - 16) 0 = x16 at *
        generalize (sched b k).getD (k - 7) 0 = x7 at *
        have i15 : IntKind.i64.wrap ((k : Int) - 15) = (k : Int) - 15 := IntWalk.i64_in _ (by omega)
        have n15 : (0 : Int) ≤ (k : Int) - 15 := by omega
        have m15 : (k : Int) - 15 < 64 := by omega
        have o15 : (15 : Int) ≤ (k : Int) := by omega
        have p15 : (k : Int) < 79 := by omega
        have t15 : ((k : Int) - 15).toNat = k - 15 := by omega
        have i2 : IntKind.i64.wrap ((k : Int) - 2) = (k : Int) - 2 := IntWalk.i64_in _ (by omega)
        have n2 : (0 : Int) ≤ (k : Int) - 2 := by omega
        have m2 : (k : Int) - 2 < 64 := by omega
        have o2 : (2 : Int) ≤ (k : Int) := by omega
        have p2 : (k : Int) < 66 := by omega
        have t2 : ((k : Int) - 2).toNat = k - 2 := by omega
        have i16 : IntKind.i64.wrap ((k : Int) - 16) = (k : Int) - 16 := IntWalk.i64_in _ (by omega)
        have n16 : (0 : Int) ≤ (k : Int) - 16 := by omega
        have m16 : (k : Int) - 16 < 64 := by omega
        have o16 : (16 : Int) ≤ (k : Int) := by omega
        have p16 : (k : Int) < 80 := by omega
        have t16 : ((k : Int) - 16).toNat = k - 16 := by omega
        have i7 : IntKind.i64.wrap ((k : Int) - 7) = (k : Int) - 7 := IntWalk.i64_in _ (by omega)
        have n7 : (0 : Int) ≤ (k : Int) - 7 := by omega
        have m7 : (k : Int) - 7 < 64 := by omega
        have o7 : (7 : Int) ≤ (k : Int) := by omega
        have p7 : (k : Int) < 71 := by omega
        have t7 : ((k : Int) - 7).toNat = k - 7 := by omega

        go_upto_region 20 with fail
        refine wp_tailb 9 (by kernel_rfl) (by kernel_rfl) rfl ?_
        simp only [List.take_succ_cons, List.take_zero, List.drop_succ_cons, List.drop_zero, List.map_cons, List.map_nil, bare]
        repeat still_step
        refine wpStill_nil ?_
        go_upto_region 21 with fail
        refine wp_tailb 29 (by kernel_rfl) (by kernel_rfl) rfl ?_
        simp only [List.take_succ_cons, List.take_zero, List.drop_succ_cons, List.drop_zero, List.map_cons, List.map_nil, bare]
        repeat (first | still_step | (refine wpStill_step (fun K hK => ?_); go_simp; refine ⟨_, by (first | (with_reducible apply srturn_7) | (with_reducible apply srturn_18) | (with_reducible apply srturn_17) | (with_reducible apply srturn_19)), hK _ ?_⟩; clear hK K))
        refine wpStill_nil ?_
        clear i15 n15 m15 o15 p15 t15 i2 n2 m2 o2 p2 t2 i16 n16 m16 o16 p16 t16 i7 n7 m7 o7 p7 t7
        go_wp2_with fail
        go_roundw
        case rel => exact ⟨k + 1, by omega, by go_num, SB.drew (SB.drew hW2), hE2.step (Below.refl _ _).drew.drew⟩
        case measure => simp [intOf]; omega
      · obtain rfl : k = 64 := by omega
        rw [part64_full] at hk1
        go_wp2_with fail
        go_meet
        exact ⟨hk1, hk2⟩
end Go.Proofs.Ytdglhonogopciaa
