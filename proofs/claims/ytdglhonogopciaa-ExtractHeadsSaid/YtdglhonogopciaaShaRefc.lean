/- Blocks of permafrostref2.Sum. -/
import Derived.Test.YtdglhonogopciaaShaRefa
namespace Go.Proofs.Ytdglhonogopciaa
open Go.RowKit
set_option linter.unusedVariables false

set_option maxHeartbeats 8000000 in
set_option maxRecDepth 1000000 in
theorem rs_rnds (w wz : World) (B gm cm gh gk n W gs : Nat) (m b : List UInt8) (s : S8) (hZs : gm < gh ∧ gh < gk ∧ gk < gs ∧ B ≤ gm) (hWgs : W ≠ gs) (hG2 : SB wz gs TA8 [] s.list []) (hW2 : Wd wz W (sched b 64)) (hr2 : RInv w B gm cm gh gk m n s.list wz)
    (σ0 σ1 σ2 σ3 σ4 σ5 σ6 σ8 σ10 σ11 σ12 σ15 σ16 σ17 σ18 σ19 σ20 σ21 σ22 σ23 σ24 σ25 σ26 σ27 σ28 σ29 σ30 σ31 σ32 σ33 σ34 σ35 σ36 σ37 σ38 σ39 σ40 σ41 σ42 σ43 σ44 σ45 σ46 σ47 σ48 σ49 σ50 σ51 σ52 σ53 σ54 σ55 σ56 σ57 σ58 σ59 σ60 σ61 σ62 σ63 σ64 σ65 σ66 σ67 σ68 σ69 σ70 σ71 σ72 σ73 σ74 σ75 σ76 σ77 σ78 σ79 σ80 σ81 σ82 σ83 σ84 σ85 σ86 σ87 σ88 σ89 σ90 σ91 σ92 σ93 σ94 σ95 σ96 σ97 σ98 σ99 σ100 σ101 σ102 σ103 σ104 σ105 σ106 σ107 σ108 σ109 σ110 σ111 σ112 σ113 σ114 σ115 σ116 σ117 σ118 σ119 σ120 σ121 σ122 σ123 σ124 σ125 σ126 σ127 σ128 σ129 σ130 σ131 σ132 σ133 σ134 σ135 σ136 σ137 σ138 σ139 σ140 σ141 σ142 σ143 σ144 σ145 σ146 σ147 σ148 σ149 σ150 σ151 σ152 σ153 σ154 σ155 σ156 σ157 σ158 σ159 σ160 σ161 σ162 σ163 σ164 σ165 σ166 σ167 σ168 σ169 σ170 σ171 σ172 σ173 σ174 σ175 σ176 σ177 σ178 σ179 σ180 σ181 σ182 σ183 σ184 σ185 σ186 σ187 σ188 σ189 σ190 σ191 σ192 σ193 σ194 σ195 σ196 σ197 σ198 σ199 σ200 σ201 σ202 σ203 σ204 σ205 σ206 σ207 σ208 σ209 σ210 σ211 σ212 σ213 σ214 σ215 σ216 σ217 σ218 σ219 σ220 σ221 σ222 σ223 σ224 σ225 σ226 σ227 σ228 σ229 σ230 σ231 σ232 σ233 σ234 σ235 σ236 σ237 σ238 σ239 σ240 σ241 σ242 σ243 σ244 σ245 σ246 σ247 σ248 σ249 σ250 σ251 σ252 σ253 σ254 σ255 σ256 σ257 σ258 σ259 σ260 σ261 σ262 σ263 σ264 σ265 σ266 : Value) (K : Act → World → Prop) (Q : Exit → Act → World → Prop)
    (hR : ∀ a' w', (∃ u14 u15 u16 u17 u18 u145 u146 u147 u148 u149 u150 u151 u152 u153 u154 u155 u156 u157 u158 u159 u160 u161 u162 u163 u164 u165 u166 u167 u168 u169 u170 u171 u172 u173 u174 u175 u176 u177 u178 u179 u180 u181 u182 u183 u184 u185 u186 u187 u188 u189 u190 u191 u192 u193 u194 u195 u196 u197 u198 u199 u200 u201 u202 u203 u204 u205 u206 u207 u208 u209 u210 u211 u212 u213 u214 u215 u216 u217 u218 u219 u220 u221 u222 u223 u224 u225 u226 : Value, (SB w' gs TA8 [] (rnds b s 64).list [] ∧ RInv w B gm cm gh gk m n s.list w') ∧ a' = ⟨#[σ0, σ1, σ2, σ3, σ4, σ5, σ6, .pointer (some ⟨gk, 0, none⟩), σ8, .pointer (some ⟨W, 0, none⟩), σ10, σ11, σ12, .pointer (some ⟨gs, 0, none⟩), u14, u15, u16, u17, u18, σ19, σ20, σ21, σ22, σ23, σ24, σ25, σ26, σ27, σ28, σ29, σ30, σ31, σ32, σ33, σ34, σ35, σ36, σ37, σ38, σ39, σ40, σ41, σ42, σ43, σ44, σ45, σ46, σ47, σ48, σ49, σ50, σ51, σ52, σ53, σ54, σ55, σ56, σ57, σ58, σ59, σ60, σ61, σ62, σ63, σ64, σ65, σ66, σ67, σ68, σ69, σ70, σ71, σ72, σ73, σ74, σ75, σ76, σ77, σ78, σ79, σ80, σ81, σ82, σ83, σ84, σ85, σ86, σ87, σ88, σ89, σ90, σ91, σ92, σ93, σ94, σ95, σ96, σ97, σ98, σ99, σ100, σ101, σ102, σ103, σ104, σ105, σ106, σ107, σ108, σ109, σ110, σ111, σ112, σ113, σ114, σ115, σ116, σ117, σ118, σ119, σ120, σ121, σ122, σ123, σ124, σ125, σ126, σ127, σ128, σ129, σ130, σ131, σ132, σ133, σ134, σ135, σ136, σ137, σ138, σ139, σ140, σ141, σ142, σ143, σ144, u145, u146, u147, u148, u149, u150, u151, u152, u153, u154, u155, u156, u157, u158, u159, u160, u161, u162, u163, u164, u165, u166, u167, u168, u169, u170, u171, u172, u173, u174, u175, u176, u177, u178, u179, u180, u181, u182, u183, u184, u185, u186, u187, u188, u189, u190, u191, u192, u193, u194, u195, u196, u197, u198, u199, u200, u201, u202, u203, u204, u205, u206, u207, u208, u209, u210, u211, u212, u213, u214, u215, u216, u217, u218, u219, u220, u221, u222, u223, u224, u225, u226, σ227, σ228, σ229, σ230, σ231, σ232, σ233, σ234, σ235, σ236, σ237, σ238, σ239, σ240, σ241, σ242, σ243, σ244, σ245, σ246, σ247, σ248, σ249, σ250, σ251, σ252, σ253, σ254, σ255, σ256, σ257, σ258, σ259, σ260, σ261, σ262, σ263, σ264, σ265, σ266], []⟩) → K a' w') :
    Code.wp Try.prog (rblk 8) (Exit.then K Q) ⟨#[σ0, σ1, σ2, σ3, σ4, σ5, σ6, .pointer (some ⟨gk, 0, none⟩), σ8, .pointer (some ⟨W, 0, none⟩), σ10, σ11, σ12, .pointer (some ⟨gs, 0, none⟩), .int .i64 0, σ15, σ16, σ17, σ18, σ19, σ20, σ21, σ22, σ23, σ24, σ25, σ26, σ27, σ28, σ29, σ30, σ31, σ32, σ33, σ34, σ35, σ36, σ37, σ38, σ39, σ40, σ41, σ42, σ43, σ44, σ45, σ46, σ47, σ48, σ49, σ50, σ51, σ52, σ53, σ54, σ55, σ56, σ57, σ58, σ59, σ60, σ61, σ62, σ63, σ64, σ65, σ66, σ67, σ68, σ69, σ70, σ71, σ72, σ73, σ74, σ75, σ76, σ77, σ78, σ79, σ80, σ81, σ82, σ83, σ84, σ85, σ86, σ87, σ88, σ89, σ90, σ91, σ92, σ93, σ94, σ95, σ96, σ97, σ98, σ99, σ100, σ101, σ102, σ103, σ104, σ105, σ106, σ107, σ108, σ109, σ110, σ111, σ112, σ113, σ114, σ115, σ116, σ117, σ118, σ119, σ120, σ121, σ122, σ123, σ124, σ125, σ126, σ127, σ128, σ129, σ130, σ131, σ132, σ133, σ134, σ135, σ136, σ137, σ138, σ139, σ140, σ141, σ142, σ143, σ144, σ145, σ146, σ147, σ148, σ149, σ150, σ151, σ152, σ153, σ154, σ155, σ156, σ157, σ158, σ159, σ160, σ161, σ162, σ163, σ164, σ165, σ166, σ167, σ168, σ169, σ170, σ171, σ172, σ173, σ174, σ175, σ176, σ177, σ178, σ179, σ180, σ181, σ182, σ183, σ184, σ185, σ186, σ187, σ188, σ189, σ190, σ191, σ192, σ193, σ194, σ195, σ196, σ197, σ198, σ199, σ200, σ201, σ202, σ203, σ204, σ205, σ206, σ207, σ208, σ209, σ210, σ211, σ212, σ213, σ214, σ215, σ216, σ217, σ218, σ219, σ220, σ221, σ222, σ223, σ224, σ225, σ226, σ227, σ228, σ229, σ230, σ231, σ232, σ233, σ234, σ235, σ236, σ237, σ238, σ239, σ240, σ241, σ242, σ243, σ244, σ245, σ246, σ247, σ248, σ249, σ250, σ251, σ252, σ253, σ254, σ255, σ256, σ257, σ258, σ259, σ260, σ261, σ262, σ263, σ264, σ265, σ266], []⟩ wz := by
  conv => arg 2; whnf
  refine wp_cut _ hR ?_
  intro J K' hJ hM
  clear hR
  go_wp2_with fail
  go_loopw [14] (fun i wr => ∃ (k : Nat) (r : S8), k ≤ 64 ∧ i = .int .i64 k ∧ r = rnds b s k ∧ SB wr gs TA8 [] r.list [] ∧ Wd wr W (sched b 64) ∧ RInv w B gm cm gh gk m n s.list wr) (fun i _ => 64 - (intOf i).toNat)
  case atStart => exact ⟨0, s, by omega, rfl, rfl, hG2, hW2, hr2⟩
  case round =>
    obtain ⟨k, r, hk, rfl, hrr, hS, hWk, hRk⟩ := hrel
    have HRR := Lib.hid hrr
    clear hrr hG2 hW2 hr2
    by_cases hlt64 : k < 64
    · have cW := hWk.cell k ((sched b 64).getD k 0) (by rw [List.getD_eq_getElem?_getD, List.getElem?_eq_getElem (by rw [sched_length]; omega)]; rfl)
      have cK := SB.at0 hRk.kk k (KK.getD k 0) (by rw [List.getD_eq_getElem?_getD, List.getElem?_eq_getElem (by show k < 64; omega)]; rfl)
      have hrn : r.rnd (KK.getD k 0) ((sched b 64).getD k 0) = rnds b s (k + 1) := by rw [HRR.out]; rfl
      generalize (sched b 64).getD k 0 = Wx at *
      generalize KK.getD k 0 = Kx at *
      have HRN := Lib.hid hrn
      clear hrn
      obtain ⟨ra, rb, rc, rd, re, rf, rg, rh⟩ := r
      have d0 := SB.at0 hS 0 ra rfl; have d1 := SB.at0 hS 1 rb rfl; have d2 := SB.at0 hS 2 rc rfl; have d3 := SB.at0 hS 3 rd rfl
      have d4 := SB.at0 hS 4 re rfl; have d5 := SB.at0 hS 5 rf rfl; have d6 := SB.at0 hS 6 rg rfl; have d7 := SB.at0 hS 7 rh rfl
      have ek1 : (0 : Int) ≤ (k : Int) := by omega
      have ek2 : (k : Int) < 64 := by omega
      go_upto_region 26 with fail
      refine wp_tailb 5 (by kernel_rfl) (by kernel_rfl) rfl ?_
      simp only [List.take_succ_cons, List.take_zero, List.drop_succ_cons, List.drop_zero, List.map_cons, List.map_nil, bare]
      repeat still_step
      refine wpStill_nil ?_
      go_upto_region 27 with fail
      refine wp_tailb 30 (by kernel_rfl) (by kernel_rfl) rfl ?_
      simp only [List.take_succ_cons, List.take_zero, List.drop_succ_cons, List.drop_zero, List.map_cons, List.map_nil, bare]
      repeat (first | still_step | (refine wpStill_step (fun K hK => ?_); go_simp; refine ⟨_, by (first | (with_reducible apply srturn_6) | (with_reducible apply srturn_11) | (with_reducible apply srturn_25)), hK _ ?_⟩; clear hK K))
      refine wpStill_nil ?_
      go_upto_region 28 with fail
      refine wp_tailb 24 (by kernel_rfl) (by kernel_rfl) rfl ?_
      simp only [List.take_succ_cons, List.take_zero, List.drop_succ_cons, List.drop_zero, List.map_cons, List.map_nil, bare]
      repeat (first | still_step | (refine wpStill_step (fun K hK => ?_); go_simp; refine ⟨_, by (first | (with_reducible apply srturn_2) | (with_reducible apply srturn_13) | (with_reducible apply srturn_22)), hK _ ?_⟩; clear hK K))
      refine wpStill_nil ?_
      go_upto_region 29 with fail
      have hS3 : wr.drew.drew.drew.heap[gs]? = some (.cells ([] ++ ((⟨ra, rb, rc, rd, re, rf, rg, rh⟩ : S8).list.map uv ++ [])).toArray TA8 (0, 0)) := hS
      have HS3 := Lib.hid hS3
      have HWk := Lib.hid hWk
      have HRk := Lib.hid hRk
      clear cW cK hS hS3 hWk hRk
      go_wp2_with (refine wpList_store_row rfl TA8 _ _ rfl gs _ rfl rfl TA8 _ HS3.out (by kernel_rfl) (by kernel_rfl) (by kernel_rfl) ?_)
      go_roundw
      case rel =>
        refine ⟨k + 1, (⟨ra, rb, rc, rd, re, rf, rg, rh⟩ : S8).rnd Kx Wx, by omega, by go_num, HRN.out, ?_, (setRow_other _ gs W _ hWgs).trans (SB.drew (SB.drew (SB.drew HWk.out))), ?_⟩
        · have hnot : bits .xor .u32 (if IntKind.u32.signed = true then -1 else IntKind.u32.max) (wd re) = wd (~~~re) := wd_not re
          simp only [hnot, wd_and, wd_xor, wd_sum5, wd_sumr]
          exact SB.ofRow ((⟨ra, rb, rc, rd, re, rf, rg, rh⟩ : S8).rnd Kx Wx).list HS3.out
        · exact (HRk.out.step (Below.refl _ _).drew.drew.drew).setRow _ hZs
      case measure => simp [intOf]; omega
    · obtain rfl : k = 64 := by omega
      rw [HRR.out] at hS
      go_wp2_with fail
      go_meet
      exact ⟨hS, hRk⟩
end Go.Proofs.Ytdglhonogopciaa
