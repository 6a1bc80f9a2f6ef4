/- Regions 18 and 22 of MerkleTells: a byte of a row is turned. -/
import Derived.Test.YtaomkjnkfkahhaaMerkT24
import Derived.Test.YtaomkjnkfkahhaaHeldB
import Derived.Laws.BitsAllLaws
namespace Go.Proofs.Ytaomkjnkfkahhaa
open Go.RowKit
set_option linter.unusedVariables false

set_option maxHeartbeats 16000000 in
set_option maxRecDepth 1000000 in
theorem mt18 (WB : World) (g k gN j cN d qc : Nat) (x t : UInt8) (at_ : Int) (HWj : Hid (∀ w, Calls Try.prog 13 #[.int .i64 at_, .int .i64 0, .int .i64 31] w fun e w' => e = .returned (.int .i64 (j : Int)) ∧ w = w'))
    (hk0 : (0 : Int) ≤ (k : Int)) (hk1 : (k : Int) < (d : Int)) (hj0 : (0 : Int) ≤ (j : Int)) (hj1 : (j : Int) < 32) (hc1 : WB.cell? ⟨g, k, none⟩ = some (.slice (some ⟨gN, 0, none⟩) 32 cN)) (hx1 : WB.cell? ⟨gN, j, none⟩ = some (.int .u8 (x.toNat : Int))) (hf1 : WB.frozen? ⟨gN, j, none⟩ = false)
    (hxo : bits .xor .u8 (x.toNat : Int) (t.toNat : Int) = ((x.toNat ^^^ t.toNat : Nat) : Int))
    (σ0 σ1 σ2 σ3 σ4 σ7 σ8 σ9 σ10 σ11 σ12 σ13 σ14 σ15 σ16 σ17 σ18 σ19 σ21 σ22 σ23 σ25 σ26 σ27 σ28 σ29 σ30 σ31 σ32 σ33 σ34 σ35 σ36 σ37 σ38 σ39 σ40 σ41 σ42 σ43 σ44 σ45 σ46 σ47 σ48 σ49 σ50 σ51 σ52 σ53 σ54 σ55 σ56 σ57 σ58 σ59 σ60 σ61 σ62 σ63 σ64 σ65 σ66 σ67 σ68 σ69 σ70 σ71 σ72 σ73 σ74 σ75 σ76 σ77 σ78 σ79 σ80 σ81 σ82 σ83 σ84 σ85 σ86 σ87 σ88 σ89 σ90 σ91 σ92 σ93 σ94 σ95 σ96 σ97 σ98 σ99 σ100 σ101 σ102 σ103 σ104 σ105 σ106 σ107 σ108 σ109 σ110 σ111 σ112 σ113 σ114 σ115 σ116 σ117 σ118 σ119 σ120 σ121 σ122 σ123 σ124 σ125 σ126 σ127 σ128 σ129 σ130 σ131 σ132 σ133 σ134 σ135 σ136 σ137 σ138 σ139 σ140 σ141 σ142 σ143 σ144 σ145 σ146 σ147 σ148 σ149 σ150 σ151 σ152 σ153 σ154 σ155 σ156 σ157 σ158 σ159 σ160 σ161 σ162 σ163 σ164 σ165 σ166 σ167 σ168 σ169 σ170 σ171 σ172 σ173 σ174 σ175 σ176 σ177 σ178 σ179 σ180 σ181 σ182 σ183 σ184 σ185 σ186 σ187 σ188 σ189 σ190 σ191 σ192 σ193 σ194 σ195 σ196 σ197 σ198 σ199 σ200 σ201 σ202 σ203 σ204 σ205 σ206 σ207 σ208 σ209 σ210 σ211 σ212 σ213 σ214 σ215 σ216 σ217 σ218 σ219 σ220 σ221 σ222 σ223 σ224 σ225 σ226 σ227 σ228 σ229 σ230 σ231 σ232 σ233 σ234 σ235 σ236 σ237 σ238 σ239 σ240 σ241 σ242 σ243 σ244 σ245 σ246 σ247 σ248 σ249 σ250 σ251 σ252 σ253 σ254 σ255 σ256 σ257 σ258 σ259 σ260 σ261 σ262 σ263 σ264 σ265 σ266 σ267 σ268 σ269 σ270 σ271 σ272 σ273 σ274 σ275 σ276 σ277 σ278 σ279 σ280 σ281 σ282 σ283 σ284 σ285 σ286 σ287 σ288 σ289 σ290 σ291 σ292 σ293 σ294 σ295 σ296 σ297 σ298 σ299 σ300 σ301 : Value) (K : Act → World → Prop) (Qx : Exit → Act → World → Prop) (hQp : ∀ c d v a w, Qx (.panic c) (a.put (some d) v) w → Qx (.panic c) a w)
    (hK : ∀ u109 u110 u111 u112 u113 u114 u115 u116 u117 u118 u119 : Value, K ⟨#[σ0, σ1, σ2, σ3, σ4, .int .u8 (t.toNat : Int), .int .i64 at_, σ7, σ8, σ9, σ10, σ11, σ12, σ13, σ14, σ15, σ16, σ17, σ18, σ19, .slice (some ⟨g, 0, none⟩) d qc, σ21, σ22, σ23, .int .i64 (k : Int), σ25, σ26, σ27, σ28, σ29, σ30, σ31, σ32, σ33, σ34, σ35, σ36, σ37, σ38, σ39, σ40, σ41, σ42, σ43, σ44, σ45, σ46, σ47, σ48, σ49, σ50, σ51, σ52, σ53, σ54, σ55, σ56, σ57, σ58, σ59, σ60, σ61, σ62, σ63, σ64, σ65, σ66, σ67, σ68, σ69, σ70, σ71, σ72, σ73, σ74, σ75, σ76, σ77, σ78, σ79, σ80, σ81, σ82, σ83, σ84, σ85, σ86, σ87, σ88, σ89, σ90, σ91, σ92, σ93, σ94, σ95, σ96, σ97, σ98, σ99, σ100, σ101, σ102, σ103, σ104, σ105, σ106, σ107, σ108, u109, u110, u111, u112, u113, u114, u115, u116, u117, u118, u119, σ120, σ121, σ122, σ123, σ124, σ125, σ126, σ127, σ128, σ129, σ130, σ131, σ132, σ133, σ134, σ135, σ136, σ137, σ138, σ139, σ140, σ141, σ142, σ143, σ144, σ145, σ146, σ147, σ148, σ149, σ150, σ151, σ152, σ153, σ154, σ155, σ156, σ157, σ158, σ159, σ160, σ161, σ162, σ163, σ164, σ165, σ166, σ167, σ168, σ169, σ170, σ171, σ172, σ173, σ174, σ175, σ176, σ177, σ178, σ179, σ180, σ181, σ182, σ183, σ184, σ185, σ186, σ187, σ188, σ189, σ190, σ191, σ192, σ193, σ194, σ195, σ196, σ197, σ198, σ199, σ200, σ201, σ202, σ203, σ204, σ205, σ206, σ207, σ208, σ209, σ210, σ211, σ212, σ213, σ214, σ215, σ216, σ217, σ218, σ219, σ220, σ221, σ222, σ223, σ224, σ225, σ226, σ227, σ228, σ229, σ230, σ231, σ232, σ233, σ234, σ235, σ236, σ237, σ238, σ239, σ240, σ241, σ242, σ243, σ244, σ245, σ246, σ247, σ248, σ249, σ250, σ251, σ252, σ253, σ254, σ255, σ256, σ257, σ258, σ259, σ260, σ261, σ262, σ263, σ264, σ265, σ266, σ267, σ268, σ269, σ270, σ271, σ272, σ273, σ274, σ275, σ276, σ277, σ278, σ279, σ280, σ281, σ282, σ283, σ284, σ285, σ286, σ287, σ288, σ289, σ290, σ291, σ292, σ293, σ294, σ295, σ296, σ297, σ298, σ299, σ300, σ301], []⟩ ((WB.setCell ⟨gN, j, none⟩ (.int .u8 ((x.toNat ^^^ t.toNat : Nat) : Int))).drew)) :
    Code.wp Try.prog (treg 18) (Exit.then K Qx) ⟨#[σ0, σ1, σ2, σ3, σ4, .int .u8 (t.toNat : Int), .int .i64 at_, σ7, σ8, σ9, σ10, σ11, σ12, σ13, σ14, σ15, σ16, σ17, σ18, σ19, .slice (some ⟨g, 0, none⟩) d qc, σ21, σ22, σ23, .int .i64 (k : Int), σ25, σ26, σ27, σ28, σ29, σ30, σ31, σ32, σ33, σ34, σ35, σ36, σ37, σ38, σ39, σ40, σ41, σ42, σ43, σ44, σ45, σ46, σ47, σ48, σ49, σ50, σ51, σ52, σ53, σ54, σ55, σ56, σ57, σ58, σ59, σ60, σ61, σ62, σ63, σ64, σ65, σ66, σ67, σ68, σ69, σ70, σ71, σ72, σ73, σ74, σ75, σ76, σ77, σ78, σ79, σ80, σ81, σ82, σ83, σ84, σ85, σ86, σ87, σ88, σ89, σ90, σ91, σ92, σ93, σ94, σ95, σ96, σ97, σ98, σ99, σ100, σ101, σ102, σ103, σ104, σ105, σ106, σ107, σ108, σ109, σ110, σ111, σ112, σ113, σ114, σ115, σ116, σ117, σ118, σ119, σ120, σ121, σ122, σ123, σ124, σ125, σ126, σ127, σ128, σ129, σ130, σ131, σ132, σ133, σ134, σ135, σ136, σ137, σ138, σ139, σ140, σ141, σ142, σ143, σ144, σ145, σ146, σ147, σ148, σ149, σ150, σ151, σ152, σ153, σ154, σ155, σ156, σ157, σ158, σ159, σ160, σ161, σ162, σ163, σ164, σ165, σ166, σ167, σ168, σ169, σ170, σ171, σ172, σ173, σ174, σ175, σ176, σ177, σ178, σ179, σ180, σ181, σ182, σ183, σ184, σ185, σ186, σ187, σ188, σ189, σ190, σ191, σ192, σ193, σ194, σ195, σ196, σ197, σ198, σ199, σ200, σ201, σ202, σ203, σ204, σ205, σ206, σ207, σ208, σ209, σ210, σ211, σ212, σ213, σ214, σ215, σ216, σ217, σ218, σ219, σ220, σ221, σ222, σ223, σ224, σ225, σ226, σ227, σ228, σ229, σ230, σ231, σ232, σ233, σ234, σ235, σ236, σ237, σ238, σ239, σ240, σ241, σ242, σ243, σ244, σ245, σ246, σ247, σ248, σ249, σ250, σ251, σ252, σ253, σ254, σ255, σ256, σ257, σ258, σ259, σ260, σ261, σ262, σ263, σ264, σ265, σ266, σ267, σ268, σ269, σ270, σ271, σ272, σ273, σ274, σ275, σ276, σ277, σ278, σ279, σ280, σ281, σ282, σ283, σ284, σ285, σ286, σ287, σ288, σ289, σ290, σ291, σ292, σ293, σ294, σ295, σ296, σ297, σ298, σ299, σ300, σ301], []⟩ WB := by
  conv => arg 2; whnf
  refine heldB_start (fun i => [0, 1, 2, 3, 4, 5, 6, 7, 8, 9, 10].contains i) (fun w' => w'.cell? ⟨g, k, none⟩ = some (.slice (some ⟨gN, 0, none⟩) 32 cN) ∧ w'.cell? ⟨gN, j, none⟩ = some (.int .u8 (x.toNat : Int))) (by kernel_rfl) ?_ (fun hHeld => ?_)
  · go_keep
  refine heldB_take (i := 0) (v := ?_) 109 rfl (by kernel_rfl) (by kernel_rfl) (by kernel_rfl) (by kernel_rfl) (fun c a w h => hQp c _ _ a w h) rfl (by assumption) (Or.inl ⟨by rfl, ?_⟩) ?_
  rotate_left
  · intro w hSw; (try dsimp only at hSw); go_simp; (try with_reducible rfl)
  simp only [List.set_cons_zero, List.set_cons_succ]
  refine heldB_take (i := 1) (v := ?_) 110 rfl (by kernel_rfl) (by kernel_rfl) (by kernel_rfl) (by kernel_rfl) (fun c a w h => hQp c _ _ a w h) rfl (by assumption) (Or.inl ⟨by rfl, ?_⟩) ?_
  rotate_left
  · intro w hSw; (try dsimp only at hSw); go_simp; (try with_reducible rfl)
  simp only [List.set_cons_zero, List.set_cons_succ]
  refine heldB_take (i := 2) (v := ?_) 111 rfl (by kernel_rfl) (by kernel_rfl) (by kernel_rfl) (by kernel_rfl) (fun c a w h => hQp c _ _ a w h) rfl (by assumption) (Or.inl ⟨by rfl, ?_⟩) ?_
  rotate_left
  · intro w hSw; (try dsimp only at hSw); go_simp; (try with_reducible rfl)
  simp only [List.set_cons_zero, List.set_cons_succ]
  refine heldB_take (i := 3) (v := ?_) 112 rfl (by kernel_rfl) (by kernel_rfl) (by kernel_rfl) (by kernel_rfl) (fun c a w h => hQp c _ _ a w h) rfl (by assumption) (Or.inl ⟨by rfl, ?_⟩) ?_
  rotate_left
  · intro w hSw; (try dsimp only at hSw); go_simp; (try with_reducible rfl)
  simp only [List.set_cons_zero, List.set_cons_succ]
  refine heldB_take (i := 4) (v := ?_) 113 rfl (by kernel_rfl) (by kernel_rfl) (by kernel_rfl) (by kernel_rfl) (fun c a w h => hQp c _ _ a w h) rfl (by assumption) (Or.inl ⟨by rfl, ?_⟩) ?_
  rotate_left
  · intro w hSw; (try dsimp only at hSw); go_simp; (try with_reducible rfl)
  simp only [List.set_cons_zero, List.set_cons_succ]
  refine heldB_take (i := 8) (v := ?_) 117 rfl (by kernel_rfl) (by kernel_rfl) (by kernel_rfl) (by kernel_rfl) (fun c a w h => hQp c _ _ a w h) rfl (by assumption) (Or.inl ⟨by rfl, ?_⟩) ?_
  rotate_left
  · intro w hSw; (try dsimp only at hSw); go_simp; (try with_reducible rfl)
  simp only [List.set_cons_zero, List.set_cons_succ]
  refine heldB_one 5 (by kernel_rfl) rfl (fun K hK => ?_)
  go_simp
  refine (HWj.out _).mono ?_
  rintro e wq ⟨rfl, rfl⟩
  go_wp2_with fail
  refine hK.out _ _ (fun _ => hHeld) ?_
  clear hK K
  refine heldB_take (i := 6) (v := ?_) 115 rfl (by kernel_rfl) (by kernel_rfl) (by kernel_rfl) (by kernel_rfl) (fun c a w h => hQp c _ _ a w h) rfl (by assumption) (Or.inl ⟨by rfl, ?_⟩) ?_
  rotate_left
  · intro w hSw; (try dsimp only at hSw); go_simp; (try with_reducible rfl)
  simp only [List.set_cons_zero, List.set_cons_succ]
  refine heldB_take (i := 7) (v := ?_) 116 rfl (by kernel_rfl) (by kernel_rfl) (by kernel_rfl) (by kernel_rfl) (fun c a w h => hQp c _ _ a w h) rfl (by assumption) (Or.inl ⟨by rfl, ?_⟩) ?_
  rotate_left
  · intro w hSw; (try dsimp only at hSw); go_simp; (try with_reducible rfl)
  simp only [List.set_cons_zero, List.set_cons_succ]
  refine heldB_take (i := 9) (v := ?_) 118 rfl (by kernel_rfl) (by kernel_rfl) (by kernel_rfl) (by kernel_rfl) (fun c a w h => hQp c _ _ a w h) rfl (by assumption) (Or.inl ⟨by rfl, ?_⟩) ?_
  rotate_left
  · intro w hSw; (try dsimp only at hSw); go_simp; (try with_reducible rfl)
  simp only [List.set_cons_zero, List.set_cons_succ]
  refine heldB_take (i := 10) (v := ?_) 119 rfl (by kernel_rfl) (by kernel_rfl) (by kernel_rfl) (by kernel_rfl) (fun c a w h => hQp c _ _ a w h) rfl (by assumption) (Or.inl ⟨by rfl, ?_⟩) ?_
  rotate_left
  · intro w hSw; (try dsimp only at hSw); go_simp; (try with_reducible rfl)
  simp only [List.set_cons_zero, List.set_cons_succ]
  refine heldB_one 11 (by kernel_rfl) rfl (fun K hK => ?_)
  go_simp
  refine hK.out _ _ (fun h => by simp at h) ?_
  clear hK K
  refine heldB_done (by kernel_rfl) ?_ _
  exact hK _ _ _ _ _ _ _ _ _ _ _
set_option maxHeartbeats 16000000 in
set_option maxRecDepth 1000000 in
theorem mt22 (WB : World) (g k gN j cN d qc : Nat) (x t : UInt8) (at_ : Int) (HWj : Hid (∀ w, Calls Try.prog 13 #[.int .i64 at_, .int .i64 0, .int .i64 31] w fun e w' => e = .returned (.int .i64 (j : Int)) ∧ w = w'))
    (hk0 : (0 : Int) ≤ (k : Int)) (hk1 : (k : Int) < (d : Int)) (hj0 : (0 : Int) ≤ (j : Int)) (hj1 : (j : Int) < 32) (hc1 : WB.cell? ⟨g, k, none⟩ = some (.slice (some ⟨gN, 0, none⟩) 32 cN)) (hx1 : WB.cell? ⟨gN, j, none⟩ = some (.int .u8 (x.toNat : Int))) (hf1 : WB.frozen? ⟨gN, j, none⟩ = false)
    (hxo : bits .xor .u8 (x.toNat : Int) (t.toNat : Int) = ((x.toNat ^^^ t.toNat : Nat) : Int))
    (σ0 σ1 σ2 σ3 σ4 σ7 σ8 σ9 σ10 σ11 σ12 σ13 σ14 σ15 σ16 σ17 σ18 σ19 σ20 σ22 σ23 σ24 σ26 σ27 σ28 σ29 σ30 σ31 σ32 σ33 σ34 σ35 σ36 σ37 σ38 σ39 σ40 σ41 σ42 σ43 σ44 σ45 σ46 σ47 σ48 σ49 σ50 σ51 σ52 σ53 σ54 σ55 σ56 σ57 σ58 σ59 σ60 σ61 σ62 σ63 σ64 σ65 σ66 σ67 σ68 σ69 σ70 σ71 σ72 σ73 σ74 σ75 σ76 σ77 σ78 σ79 σ80 σ81 σ82 σ83 σ84 σ85 σ86 σ87 σ88 σ89 σ90 σ91 σ92 σ93 σ94 σ95 σ96 σ97 σ98 σ99 σ100 σ101 σ102 σ103 σ104 σ105 σ106 σ107 σ108 σ109 σ110 σ111 σ112 σ113 σ114 σ115 σ116 σ117 σ118 σ119 σ120 σ121 σ122 σ123 σ124 σ125 σ126 σ127 σ128 σ129 σ130 σ131 σ132 σ133 σ134 σ135 σ136 σ137 σ138 σ139 σ140 σ141 σ142 σ143 σ144 σ145 σ146 σ147 σ148 σ149 σ150 σ151 σ152 σ153 σ154 σ155 σ156 σ157 σ158 σ159 σ160 σ161 σ162 σ163 σ164 σ165 σ166 σ167 σ168 σ169 σ170 σ171 σ172 σ173 σ174 σ175 σ176 σ177 σ178 σ179 σ180 σ181 σ182 σ183 σ184 σ185 σ186 σ187 σ188 σ189 σ190 σ191 σ192 σ193 σ194 σ195 σ196 σ197 σ198 σ199 σ200 σ201 σ202 σ203 σ204 σ205 σ206 σ207 σ208 σ209 σ210 σ211 σ212 σ213 σ214 σ215 σ216 σ217 σ218 σ219 σ220 σ221 σ222 σ223 σ224 σ225 σ226 σ227 σ228 σ229 σ230 σ231 σ232 σ233 σ234 σ235 σ236 σ237 σ238 σ239 σ240 σ241 σ242 σ243 σ244 σ245 σ246 σ247 σ248 σ249 σ250 σ251 σ252 σ253 σ254 σ255 σ256 σ257 σ258 σ259 σ260 σ261 σ262 σ263 σ264 σ265 σ266 σ267 σ268 σ269 σ270 σ271 σ272 σ273 σ274 σ275 σ276 σ277 σ278 σ279 σ280 σ281 σ282 σ283 σ284 σ285 σ286 σ287 σ288 σ289 σ290 σ291 σ292 σ293 σ294 σ295 σ296 σ297 σ298 σ299 σ300 σ301 : Value) (K : Act → World → Prop) (Qx : Exit → Act → World → Prop) (hQp : ∀ c d v a w, Qx (.panic c) (a.put (some d) v) w → Qx (.panic c) a w)
    (hK : ∀ u137 u138 u139 u140 u141 u142 u143 u144 u145 u146 u147 : Value, K ⟨#[σ0, σ1, σ2, σ3, σ4, .int .u8 (t.toNat : Int), .int .i64 at_, σ7, σ8, σ9, σ10, σ11, σ12, σ13, σ14, σ15, σ16, σ17, σ18, σ19, σ20, .slice (some ⟨g, 0, none⟩) d qc, σ22, σ23, σ24, .int .i64 (k : Int), σ26, σ27, σ28, σ29, σ30, σ31, σ32, σ33, σ34, σ35, σ36, σ37, σ38, σ39, σ40, σ41, σ42, σ43, σ44, σ45, σ46, σ47, σ48, σ49, σ50, σ51, σ52, σ53, σ54, σ55, σ56, σ57, σ58, σ59, σ60, σ61, σ62, σ63, σ64, σ65, σ66, σ67, σ68, σ69, σ70, σ71, σ72, σ73, σ74, σ75, σ76, σ77, σ78, σ79, σ80, σ81, σ82, σ83, σ84, σ85, σ86, σ87, σ88, σ89, σ90, σ91, σ92, σ93, σ94, σ95, σ96, σ97, σ98, σ99, σ100, σ101, σ102, σ103, σ104, σ105, σ106, σ107, σ108, σ109, σ110, σ111, σ112, σ113, σ114, σ115, σ116, σ117, σ118, σ119, σ120, σ121, σ122, σ123, σ124, σ125, σ126, σ127, σ128, σ129, σ130, σ131, σ132, σ133, σ134, σ135, σ136, u137, u138, u139, u140, u141, u142, u143, u144, u145, u146, u147, σ148, σ149, σ150, σ151, σ152, σ153, σ154, σ155, σ156, σ157, σ158, σ159, σ160, σ161, σ162, σ163, σ164, σ165, σ166, σ167, σ168, σ169, σ170, σ171, σ172, σ173, σ174, σ175, σ176, σ177, σ178, σ179, σ180, σ181, σ182, σ183, σ184, σ185, σ186, σ187, σ188, σ189, σ190, σ191, σ192, σ193, σ194, σ195, σ196, σ197, σ198, σ199, σ200, σ201, σ202, σ203, σ204, σ205, σ206, σ207, σ208, σ209, σ210, σ211, σ212, σ213, σ214, σ215, σ216, σ217, σ218, σ219, σ220, σ221, σ222, σ223, σ224, σ225, σ226, σ227, σ228, σ229, σ230, σ231, σ232, σ233, σ234, σ235, σ236, σ237, σ238, σ239, σ240, σ241, σ242, σ243, σ244, σ245, σ246, σ247, σ248, σ249, σ250, σ251, σ252, σ253, σ254, σ255, σ256, σ257, σ258, σ259, σ260, σ261, σ262, σ263, σ264, σ265, σ266, σ267, σ268, σ269, σ270, σ271, σ272, σ273, σ274, σ275, σ276, σ277, σ278, σ279, σ280, σ281, σ282, σ283, σ284, σ285, σ286, σ287, σ288, σ289, σ290, σ291, σ292, σ293, σ294, σ295, σ296, σ297, σ298, σ299, σ300, σ301], []⟩ ((WB.setCell ⟨gN, j, none⟩ (.int .u8 ((x.toNat ^^^ t.toNat : Nat) : Int))).drew)) :
    Code.wp Try.prog (treg 22) (Exit.then K Qx) ⟨#[σ0, σ1, σ2, σ3, σ4, .int .u8 (t.toNat : Int), .int .i64 at_, σ7, σ8, σ9, σ10, σ11, σ12, σ13, σ14, σ15, σ16, σ17, σ18, σ19, σ20, .slice (some ⟨g, 0, none⟩) d qc, σ22, σ23, σ24, .int .i64 (k : Int), σ26, σ27, σ28, σ29, σ30, σ31, σ32, σ33, σ34, σ35, σ36, σ37, σ38, σ39, σ40, σ41, σ42, σ43, σ44, σ45, σ46, σ47, σ48, σ49, σ50, σ51, σ52, σ53, σ54, σ55, σ56, σ57, σ58, σ59, σ60, σ61, σ62, σ63, σ64, σ65, σ66, σ67, σ68, σ69, σ70, σ71, σ72, σ73, σ74, σ75, σ76, σ77, σ78, σ79, σ80, σ81, σ82, σ83, σ84, σ85, σ86, σ87, σ88, σ89, σ90, σ91, σ92, σ93, σ94, σ95, σ96, σ97, σ98, σ99, σ100, σ101, σ102, σ103, σ104, σ105, σ106, σ107, σ108, σ109, σ110, σ111, σ112, σ113, σ114, σ115, σ116, σ117, σ118, σ119, σ120, σ121, σ122, σ123, σ124, σ125, σ126, σ127, σ128, σ129, σ130, σ131, σ132, σ133, σ134, σ135, σ136, σ137, σ138, σ139, σ140, σ141, σ142, σ143, σ144, σ145, σ146, σ147, σ148, σ149, σ150, σ151, σ152, σ153, σ154, σ155, σ156, σ157, σ158, σ159, σ160, σ161, σ162, σ163, σ164, σ165, σ166, σ167, σ168, σ169, σ170, σ171, σ172, σ173, σ174, σ175, σ176, σ177, σ178, σ179, σ180, σ181, σ182, σ183, σ184, σ185, σ186, σ187, σ188, σ189, σ190, σ191, σ192, σ193, σ194, σ195, σ196, σ197, σ198, σ199, σ200, σ201, σ202, σ203, σ204, σ205, σ206, σ207, σ208, σ209, σ210, σ211, σ212, σ213, σ214, σ215, σ216, σ217, σ218, σ219, σ220, σ221, σ222, σ223, σ224, σ225, σ226, σ227, σ228, σ229, σ230, σ231, σ232, σ233, σ234, σ235, σ236, σ237, σ238, σ239, σ240, σ241, σ242, σ243, σ244, σ245, σ246, σ247, σ248, σ249, σ250, σ251, σ252, σ253, σ254, σ255, σ256, σ257, σ258, σ259, σ260, σ261, σ262, σ263, σ264, σ265, σ266, σ267, σ268, σ269, σ270, σ271, σ272, σ273, σ274, σ275, σ276, σ277, σ278, σ279, σ280, σ281, σ282, σ283, σ284, σ285, σ286, σ287, σ288, σ289, σ290, σ291, σ292, σ293, σ294, σ295, σ296, σ297, σ298, σ299, σ300, σ301], []⟩ WB := by
  conv => arg 2; whnf
  refine heldB_start (fun i => [0, 1, 2, 3, 4, 5, 6, 7, 8, 9, 10].contains i) (fun w' => w'.cell? ⟨g, k, none⟩ = some (.slice (some ⟨gN, 0, none⟩) 32 cN) ∧ w'.cell? ⟨gN, j, none⟩ = some (.int .u8 (x.toNat : Int))) (by kernel_rfl) ?_ (fun hHeld => ?_)
  · go_keep
  refine heldB_take (i := 0) (v := ?_) 137 rfl (by kernel_rfl) (by kernel_rfl) (by kernel_rfl) (by kernel_rfl) (fun c a w h => hQp c _ _ a w h) rfl (by assumption) (Or.inl ⟨by rfl, ?_⟩) ?_
  rotate_left
  · intro w hSw; (try dsimp only at hSw); go_simp; (try with_reducible rfl)
  simp only [List.set_cons_zero, List.set_cons_succ]
  refine heldB_take (i := 1) (v := ?_) 138 rfl (by kernel_rfl) (by kernel_rfl) (by kernel_rfl) (by kernel_rfl) (fun c a w h => hQp c _ _ a w h) rfl (by assumption) (Or.inl ⟨by rfl, ?_⟩) ?_
  rotate_left
  · intro w hSw; (try dsimp only at hSw); go_simp; (try with_reducible rfl)
  simp only [List.set_cons_zero, List.set_cons_succ]
  refine heldB_take (i := 2) (v := ?_) 139 rfl (by kernel_rfl) (by kernel_rfl) (by kernel_rfl) (by kernel_rfl) (fun c a w h => hQp c _ _ a w h) rfl (by assumption) (Or.inl ⟨by rfl, ?_⟩) ?_
  rotate_left
  · intro w hSw; (try dsimp only at hSw); go_simp; (try with_reducible rfl)
  simp only [List.set_cons_zero, List.set_cons_succ]
  refine heldB_take (i := 3) (v := ?_) 140 rfl (by kernel_rfl) (by kernel_rfl) (by kernel_rfl) (by kernel_rfl) (fun c a w h => hQp c _ _ a w h) rfl (by assumption) (Or.inl ⟨by rfl, ?_⟩) ?_
  rotate_left
  · intro w hSw; (try dsimp only at hSw); go_simp; (try with_reducible rfl)
  simp only [List.set_cons_zero, List.set_cons_succ]
  refine heldB_take (i := 4) (v := ?_) 141 rfl (by kernel_rfl) (by kernel_rfl) (by kernel_rfl) (by kernel_rfl) (fun c a w h => hQp c _ _ a w h) rfl (by assumption) (Or.inl ⟨by rfl, ?_⟩) ?_
  rotate_left
  · intro w hSw; (try dsimp only at hSw); go_simp; (try with_reducible rfl)
  simp only [List.set_cons_zero, List.set_cons_succ]
  refine heldB_take (i := 8) (v := ?_) 145 rfl (by kernel_rfl) (by kernel_rfl) (by kernel_rfl) (by kernel_rfl) (fun c a w h => hQp c _ _ a w h) rfl (by assumption) (Or.inl ⟨by rfl, ?_⟩) ?_
  rotate_left
  · intro w hSw; (try dsimp only at hSw); go_simp; (try with_reducible rfl)
  simp only [List.set_cons_zero, List.set_cons_succ]
  refine heldB_one 5 (by kernel_rfl) rfl (fun K hK => ?_)
  go_simp
  refine (HWj.out _).mono ?_
  rintro e wq ⟨rfl, rfl⟩
  go_wp2_with fail
  refine hK.out _ _ (fun _ => hHeld) ?_
  clear hK K
  refine heldB_take (i := 6) (v := ?_) 143 rfl (by kernel_rfl) (by kernel_rfl) (by kernel_rfl) (by kernel_rfl) (fun c a w h => hQp c _ _ a w h) rfl (by assumption) (Or.inl ⟨by rfl, ?_⟩) ?_
  rotate_left
  · intro w hSw; (try dsimp only at hSw); go_simp; (try with_reducible rfl)
  simp only [List.set_cons_zero, List.set_cons_succ]
  refine heldB_take (i := 7) (v := ?_) 144 rfl (by kernel_rfl) (by kernel_rfl) (by kernel_rfl) (by kernel_rfl) (fun c a w h => hQp c _ _ a w h) rfl (by assumption) (Or.inl ⟨by rfl, ?_⟩) ?_
  rotate_left
  · intro w hSw; (try dsimp only at hSw); go_simp; (try with_reducible rfl)
  simp only [List.set_cons_zero, List.set_cons_succ]
  refine heldB_take (i := 9) (v := ?_) 146 rfl (by kernel_rfl) (by kernel_rfl) (by kernel_rfl) (by kernel_rfl) (fun c a w h => hQp c _ _ a w h) rfl (by assumption) (Or.inl ⟨by rfl, ?_⟩) ?_
  rotate_left
  · intro w hSw; (try dsimp only at hSw); go_simp; (try with_reducible rfl)
  simp only [List.set_cons_zero, List.set_cons_succ]
  refine heldB_take (i := 10) (v := ?_) 147 rfl (by kernel_rfl) (by kernel_rfl) (by kernel_rfl) (by kernel_rfl) (fun c a w h => hQp c _ _ a w h) rfl (by assumption) (Or.inl ⟨by rfl, ?_⟩) ?_
  rotate_left
  · intro w hSw; (try dsimp only at hSw); go_simp; (try with_reducible rfl)
  simp only [List.set_cons_zero, List.set_cons_succ]
  refine heldB_one 11 (by kernel_rfl) rfl (fun K hK => ?_)
  go_simp
  refine hK.out _ _ (fun h => by simp at h) ?_
  clear hK K
  refine heldB_done (by kernel_rfl) ?_ _
  exact hK _ _ _ _ _ _ _ _ _ _ _
end Go.Proofs.Ytaomkjnkfkahhaa
