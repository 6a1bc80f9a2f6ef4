/- Region 24 of MerkleTells: every check, by the code and by the document. -/
import Derived.Test.YtaomkjnkfkahhaaMerkT
import Derived.Test.YtaomkjnkfkahhaaHeld
import Derived.Test.YtaomkjnkfkahhaaLexFast
namespace Go.Proofs.Ytaomkjnkfkahhaa
open Go.RowKit
set_option linter.unusedVariables false

def tregionOf (n : Nat) : Code → Option Code
  | .region k ops d => if k = n then some (.region k ops d) else none
  | .block _ c => tregionOf n c
  | .seq a b => match tregionOf n a with
    | some c => some c
    | none => tregionOf n b
  | .loop c => tregionOf n c
  | .scope c => tregionOf n c
  | .cond _ a b => match tregionOf n a with
    | some c => some c
    | none => tregionOf n b
  | _ => none
/-- a region of the function's text -/
noncomputable def treg (n : Nat) : Code := ((Try.f6.body.bind (tregionOf n)).getD .skip)
set_option maxHeartbeats 64000000 in
set_option maxRecDepth 1000000 in
theorem mt24 (w wk : World) (H n I M b off c fm fc rc sc dq qc dh hc ml cl : Nat) (fa ra sa qa ha al : Option Addr) (L Q G : List (List UInt8)) (FF R S : List UInt8) (nn : Int)
    (hIn : I < n) (hn : n ≤ 40) (hml : ml ≤ 1000) (hfm : fm ≤ 1000) (hdq : dq ≤ 64) (hdh : dh ≤ 65) (hnn : nn ≤ 1000)
    (HQ : Hid (∀ p ∈ Q, p.length ≤ 1000)) (HG : Hid (∀ p ∈ G, p.length ≤ 1000))
    (hL : LL wk (some ⟨b, off, none⟩) n c L) (hCl : CellIs wk b (off + I) (.slice al ml cl)) (hBl : Bs wk al ml cl (L.getD I [])) (hF : Bs wk fa fm fc FF) (hR : Bs wk ra 32 rc R) (hS : Bs wk sa 32 sc S) (hQ : LL wk qa dq qc Q) (hG : LL wk ha dh hc G) (hE : Ext H w wk)
    (σ0 σ5 σ6 σ7 σ8 σ9 σ10 σ11 σ12 σ13 σ14 σ16 σ17 σ18 σ19 σ24 σ25 σ26 σ27 σ28 σ29 σ30 σ31 σ32 σ33 σ34 σ35 σ36 σ37 σ38 σ39 σ40 σ41 σ42 σ43 σ44 σ45 σ46 σ47 σ48 σ49 σ50 σ51 σ52 σ53 σ54 σ55 σ56 σ57 σ58 σ59 σ60 σ61 σ62 σ63 σ64 σ65 σ66 σ67 σ68 σ69 σ70 σ71 σ72 σ73 σ74 σ75 σ76 σ77 σ78 σ79 σ80 σ81 σ82 σ83 σ84 σ85 σ86 σ87 σ88 σ89 σ90 σ91 σ92 σ93 σ94 σ95 σ96 σ97 σ98 σ99 σ100 σ101 σ102 σ103 σ104 σ105 σ106 σ107 σ108 σ109 σ110 σ111 σ112 σ113 σ114 σ115 σ116 σ117 σ118 σ119 σ120 σ121 σ122 σ123 σ124 σ125 σ126 σ127 σ128 σ129 σ130 σ131 σ132 σ133 σ134 σ135 σ136 σ137 σ138 σ139 σ140 σ141 σ142 σ143 σ144 σ145 σ146 σ147 σ148 σ149 σ150 σ151 σ152 σ153 σ154 σ155 σ156 σ157 σ158 σ159 σ160 σ161 σ162 σ163 σ164 σ165 σ166 σ167 σ168 σ169 σ170 σ171 σ172 σ173 σ174 σ175 σ176 σ177 σ178 σ179 σ180 σ181 σ182 σ183 σ184 σ185 σ186 σ187 σ188 σ189 σ190 σ191 σ192 σ193 σ194 σ195 σ196 σ197 σ198 σ199 σ200 σ201 σ202 σ203 σ204 σ205 σ206 σ207 σ208 σ209 σ210 σ211 σ212 σ213 σ214 σ215 σ216 σ217 σ218 σ219 σ220 σ221 σ222 σ223 σ224 σ225 σ226 σ227 σ228 σ229 σ230 σ231 σ232 σ233 σ234 σ235 σ236 σ237 σ238 σ239 σ240 σ241 σ242 σ243 σ244 σ245 σ246 σ247 σ248 σ249 σ250 σ251 σ252 σ253 σ254 σ255 σ256 σ257 σ258 σ259 σ260 σ261 σ262 σ263 σ264 σ265 σ266 σ267 σ268 σ269 σ270 σ271 σ272 σ273 σ274 σ275 σ276 σ277 σ278 σ279 σ280 σ281 σ282 σ283 σ284 σ285 σ286 σ287 σ288 σ289 σ290 σ291 σ292 σ293 σ294 σ295 σ296 σ297 σ298 σ299 σ300 σ301 : Value) (K : Act → World → Prop) (Qx : Exit → Act → World → Prop) (hQp : ∀ c d v a w, Qx (.panic c) (a.put (some d) v) w → Qx (.panic c) a w)
    (hK : ∀ w', Ext H w w' → ∀ u151 u152 u153 u154 u155 u156 u157 u158 u159 u160 u161 u162 u163 u164 u165 u166 u167 u168 u169 u170 u171 u172 u173 u174 u175 u176 u177 u178 u179 u180 u181 u182 u183 u184 u185 u186 u187 u188 u189 u190 u191 u192 u193 u194 u195 u196 u197 u198 u199 u200 u201 u202 u203 u204 u205 u206 u207 u208 u209 u210 u211 u212 u213 u214 u215 u216 u217 u218 u219 u220 u221 u222 u223 u224 u225 u226 u227 u228 u229 u230 u231 u232 u233 u234 u235 u236 u237 u238 u239 u240 u241 u242 u243 u244 u245 u246 u247 u248 u249 u250 u251 u252 u253 u254 u255 u256 u257 u258 u259 u260 u261 u262 u263 u264 u265 u266 u267 u268 u269 u270 u271 u272 u273 u274 u275 u276 u277 u278 u279 u280 u281 u282 u283 u284 u285 u286 u287 u288 u289 u290 u291 u292 u293 u294 u295 u296 u297 u298 u299 u300 u301 : Value, K ⟨#[σ0, .int .i64 (I : Int), .int .i64 (M : Int), .slice fa fm fc, .int .i64 nn, σ5, σ6, σ7, σ8, σ9, σ10, σ11, σ12, σ13, .bool true, .slice (some ⟨b, off, none⟩) n c, σ16, σ17, σ18, σ19, .slice qa dq qc, .slice ha dh hc, .slice ra 32 rc, .slice sa 32 sc, σ24, σ25, σ26, σ27, σ28, σ29, σ30, σ31, σ32, σ33, σ34, σ35, σ36, σ37, σ38, σ39, σ40, σ41, σ42, σ43, σ44, σ45, σ46, σ47, σ48, σ49, σ50, σ51, σ52, σ53, σ54, σ55, σ56, σ57, σ58, σ59, σ60, σ61, σ62, σ63, σ64, σ65, σ66, σ67, σ68, σ69, σ70, σ71, σ72, σ73, σ74, σ75, σ76, σ77, σ78, σ79, σ80, σ81, σ82, σ83, σ84, σ85, σ86, σ87, σ88, σ89, σ90, σ91, σ92, σ93, σ94, σ95, σ96, σ97, σ98, σ99, σ100, σ101, σ102, σ103, σ104, σ105, σ106, σ107, σ108, σ109, σ110, σ111, σ112, σ113, σ114, σ115, σ116, σ117, σ118, σ119, σ120, σ121, σ122, σ123, σ124, σ125, σ126, σ127, σ128, σ129, σ130, σ131, σ132, σ133, σ134, σ135, σ136, σ137, σ138, σ139, σ140, σ141, σ142, σ143, σ144, σ145, σ146, σ147, σ148, σ149, σ150, u151, u152, u153, u154, u155, u156, u157, u158, u159, u160, u161, u162, u163, u164, u165, u166, u167, u168, u169, u170, u171, u172, u173, u174, u175, u176, u177, u178, u179, u180, u181, u182, u183, u184, u185, u186, u187, u188, u189, u190, u191, u192, u193, u194, u195, u196, u197, u198, u199, u200, u201, u202, u203, u204, u205, u206, u207, u208, u209, u210, u211, u212, u213, u214, u215, u216, u217, u218, u219, u220, u221, u222, u223, u224, u225, u226, u227, u228, u229, u230, u231, u232, u233, u234, u235, u236, u237, u238, u239, u240, u241, u242, u243, u244, u245, u246, u247, u248, u249, u250, u251, u252, u253, u254, u255, u256, u257, u258, u259, u260, u261, u262, u263, u264, u265, u266, u267, u268, u269, u270, u271, u272, u273, u274, u275, u276, u277, u278, u279, u280, u281, u282, u283, u284, u285, u286, u287, u288, u289, u290, u291, u292, u293, u294, u295, u296, u297, u298, u299, u300, u301], []⟩ w') :
    Code.wp Try.prog (treg 24) (Exit.then K Qx) ⟨#[σ0, .int .i64 (I : Int), .int .i64 (M : Int), .slice fa fm fc, .int .i64 nn, σ5, σ6, σ7, σ8, σ9, σ10, σ11, σ12, σ13, σ14, .slice (some ⟨b, off, none⟩) n c, σ16, σ17, σ18, σ19, .slice qa dq qc, .slice ha dh hc, .slice ra 32 rc, .slice sa 32 sc, σ24, σ25, σ26, σ27, σ28, σ29, σ30, σ31, σ32, σ33, σ34, σ35, σ36, σ37, σ38, σ39, σ40, σ41, σ42, σ43, σ44, σ45, σ46, σ47, σ48, σ49, σ50, σ51, σ52, σ53, σ54, σ55, σ56, σ57, σ58, σ59, σ60, σ61, σ62, σ63, σ64, σ65, σ66, σ67, σ68, σ69, σ70, σ71, σ72, σ73, σ74, σ75, σ76, σ77, σ78, σ79, σ80, σ81, σ82, σ83, σ84, σ85, σ86, σ87, σ88, σ89, σ90, σ91, σ92, σ93, σ94, σ95, σ96, σ97, σ98, σ99, σ100, σ101, σ102, σ103, σ104, σ105, σ106, σ107, σ108, σ109, σ110, σ111, σ112, σ113, σ114, σ115, σ116, σ117, σ118, σ119, σ120, σ121, σ122, σ123, σ124, σ125, σ126, σ127, σ128, σ129, σ130, σ131, σ132, σ133, σ134, σ135, σ136, σ137, σ138, σ139, σ140, σ141, σ142, σ143, σ144, σ145, σ146, σ147, σ148, σ149, σ150, σ151, σ152, σ153, σ154, σ155, σ156, σ157, σ158, σ159, σ160, σ161, σ162, σ163, σ164, σ165, σ166, σ167, σ168, σ169, σ170, σ171, σ172, σ173, σ174, σ175, σ176, σ177, σ178, σ179, σ180, σ181, σ182, σ183, σ184, σ185, σ186, σ187, σ188, σ189, σ190, σ191, σ192, σ193, σ194, σ195, σ196, σ197, σ198, σ199, σ200, σ201, σ202, σ203, σ204, σ205, σ206, σ207, σ208, σ209, σ210, σ211, σ212, σ213, σ214, σ215, σ216, σ217, σ218, σ219, σ220, σ221, σ222, σ223, σ224, σ225, σ226, σ227, σ228, σ229, σ230, σ231, σ232, σ233, σ234, σ235, σ236, σ237, σ238, σ239, σ240, σ241, σ242, σ243, σ244, σ245, σ246, σ247, σ248, σ249, σ250, σ251, σ252, σ253, σ254, σ255, σ256, σ257, σ258, σ259, σ260, σ261, σ262, σ263, σ264, σ265, σ266, σ267, σ268, σ269, σ270, σ271, σ272, σ273, σ274, σ275, σ276, σ277, σ278, σ279, σ280, σ281, σ282, σ283, σ284, σ285, σ286, σ287, σ288, σ289, σ290, σ291, σ292, σ293, σ294, σ295, σ296, σ297, σ298, σ299, σ300, σ301], []⟩ wk := by
  conv => arg 2; whnf
  obtain ⟨r0, hr0⟩ : ∃ r, mcheck R (L.getD I []) (I : Int) (n : Int) Q = r := ⟨_, rfl⟩
  have HR0 := Lib.hid hr0
  clear hr0
  have rr0 : (r0 == r0) = true := by simp
  obtain ⟨r1, hr1⟩ : ∃ r, mcheck R FF (I : Int) (n : Int) Q = r := ⟨_, rfl⟩
  have HR1 := Lib.hid hr1
  clear hr1
  have rr1 : (r1 == r1) = true := by simp
  obtain ⟨r2, hr2⟩ : ∃ r, mcheck R (L.getD I []) (I : Int) nn Q = r := ⟨_, rfl⟩
  have HR2 := Lib.hid hr2
  clear hr2
  have rr2 : (r2 == r2) = true := by simp
  obtain ⟨r3, hr3⟩ : ∃ r, mcheck R (L.getD I []) nn (n : Int) Q = r := ⟨_, rfl⟩
  have HR3 := Lib.hid hr3
  clear hr3
  have rr3 : (r3 == r3) = true := by simp
  obtain ⟨r4, hr4⟩ : ∃ r, mcheckG S R (M : Int) (n : Int) G = r := ⟨_, rfl⟩
  have HR4 := Lib.hid hr4
  clear hr4
  have rr4 : (r4 == r4) = true := by simp
  obtain ⟨r5, hr5⟩ : ∃ r, mcheckG S R nn (n : Int) G = r := ⟨_, rfl⟩
  have HR5 := Lib.hid hr5
  clear hr5
  have rr5 : (r5 == r5) = true := by simp
  obtain ⟨r6, hr6⟩ : ∃ r, mcheckG S R (M : Int) nn G = r := ⟨_, rfl⟩
  have HR6 := Lib.hid hr6
  clear hr6
  have rr6 : (r6 == r6) = true := by simp
  obtain ⟨r7, hr7⟩ : ∃ r, mcheckG R S (M : Int) (n : Int) G = r := ⟨_, rfl⟩
  have HR7 := Lib.hid hr7
  clear hr7
  have rr7 : (r7 == r7) = true := by simp
  have hn1000 : (n : Int) ≤ 1000 := by omega
  have e1 : (0 : Int) ≤ (I : Int) := by omega
  have e2 : (I : Int) < (n : Int) := by omega
  simp only [List.append_eq, List.cons_append, List.nil_append]
  have hlt := hCl.1
  have hcl := hCl.2
  refine wp_region_over (by kernel_rfl) (lexB_of_fast _ _ (by kernel_rfl) (by kernel_rfl)) ?_
  go_big_quiet_step (fail)
  go_big_quiet_step (fail)
  go_big_quiet_step (fail)
  go_big_quiet_step (fail)
  go_big_quiet_step (fail)
  go_big_quiet_step (fail)
  go_big_quiet_step (fail)
  go_big_quiet_step (fail)
  go_big_quiet_step (fail)
  go_big_quiet_step (exact over_below (check_eq _ _ _ _ _ _ _ _ (I : Int) (n : Int) _ _ _ _ r0 _ (hR.below (below_over _ _)) (hBl.below (below_over _ _)) (hQ.below (below_over _ _)) HQ.out hml hdq hn1000 HR0.out))
  go_big_quiet_step (fail)
  go_big_quiet_step (fail)
  go_big_quiet_step (fail)
  go_big_quiet_step (fail)
  go_big_quiet_step (fail)
  go_big_quiet_step (fail)
  go_big_quiet_step (fail)
  go_big_quiet_step (fail)
  go_big_quiet_step (fail)
  go_big_quiet_step (exact over_below (rcheck_eq _ _ _ _ _ _ _ _ (I : Int) (n : Int) _ _ _ _ r0 _ (hR.below (below_over _ _)) (hBl.below (below_over _ _)) (hQ.below (below_over _ _)) HQ.out hml hdq hn1000 HR0.out))
  go_big_quiet_step (fail)
  go_big_quiet_step (fail)
  go_big_quiet_step (fail)
  go_big_quiet_step (fail)
  go_big_quiet_step (fail)
  go_big_quiet_step (fail)
  go_big_quiet_step (fail)
  go_big_quiet_step (fail)
  go_big_quiet_step (exact over_below (check_eq _ _ _ _ _ _ _ _ (I : Int) (n : Int) _ _ _ _ r1 _ (hR.below (below_over _ _)) (hF.below (below_over _ _)) (hQ.below (below_over _ _)) HQ.out hfm hdq hn1000 HR1.out))
  go_big_quiet_step (fail)
  go_big_quiet_step (fail)
  go_big_quiet_step (fail)
  go_big_quiet_step (fail)
  go_big_quiet_step (fail)
  go_big_quiet_step (fail)
  go_big_quiet_step (exact over_below (rcheck_eq _ _ _ _ _ _ _ _ (I : Int) (n : Int) _ _ _ _ r1 _ (hR.below (below_over _ _)) (hF.below (below_over _ _)) (hQ.below (below_over _ _)) HQ.out hfm hdq hn1000 HR1.out))
  go_big_quiet_step (fail)
  go_big_quiet_step (fail)
  go_big_quiet_step (fail)
  go_big_quiet_step (fail)
  go_big_quiet_step (fail)
  go_big_quiet_step (fail)
  go_big_quiet_step (fail)
  go_big_quiet_step (fail)
  go_big_quiet_step (fail)
  go_big_quiet_step (fail)
  go_big_quiet_step (fail)
  go_big_quiet_step (exact over_below (check_eq _ _ _ _ _ _ _ _ (I : Int) nn _ _ _ _ r2 _ (hR.below (below_over _ _)) (hBl.below (below_over _ _)) (hQ.below (below_over _ _)) HQ.out hml hdq hnn HR2.out))
  go_big_quiet_step (fail)
  go_big_quiet_step (fail)
  go_big_quiet_step (fail)
  go_big_quiet_step (fail)
  go_big_quiet_step (fail)
  go_big_quiet_step (fail)
  go_big_quiet_step (fail)
  go_big_quiet_step (fail)
  go_big_quiet_step (exact over_below (rcheck_eq _ _ _ _ _ _ _ _ (I : Int) nn _ _ _ _ r2 _ (hR.below (below_over _ _)) (hBl.below (below_over _ _)) (hQ.below (below_over _ _)) HQ.out hml hdq hnn HR2.out))
  go_big_quiet_step (fail)
  go_big_quiet_step (fail)
  go_big_quiet_step (fail)
  go_big_quiet_step (fail)
  go_big_quiet_step (fail)
  go_big_quiet_step (fail)
  go_big_quiet_step (fail)
  go_big_quiet_step (fail)
  go_big_quiet_step (fail)
  go_big_quiet_step (fail)
  go_big_quiet_step (fail)
  go_big_quiet_step (fail)
  go_big_quiet_step (exact over_below (check_eq _ _ _ _ _ _ _ _ nn (n : Int) _ _ _ _ r3 _ (hR.below (below_over _ _)) (hBl.below (below_over _ _)) (hQ.below (below_over _ _)) HQ.out hml hdq hn1000 HR3.out))
  go_big_quiet_step (fail)
  go_big_quiet_step (fail)
  go_big_quiet_step (fail)
  go_big_quiet_step (fail)
  go_big_quiet_step (fail)
  go_big_quiet_step (fail)
  go_big_quiet_step (fail)
  go_big_quiet_step (fail)
  go_big_quiet_step (fail)
  go_big_quiet_step (exact over_below (rcheck_eq _ _ _ _ _ _ _ _ nn (n : Int) _ _ _ _ r3 _ (hR.below (below_over _ _)) (hBl.below (below_over _ _)) (hQ.below (below_over _ _)) HQ.out hml hdq hn1000 HR3.out))
  go_big_quiet_step (fail)
  go_big_quiet_step (fail)
  go_big_quiet_step (fail)
  go_big_quiet_step (fail)
  go_big_quiet_step (fail)
  go_big_quiet_step (fail)
  go_big_quiet_step (fail)
  go_big_quiet_step (fail)
  go_big_quiet_step (fail)
  go_big_quiet_step (exact over_below (checkG_eq _ _ _ _ _ _ _ _ (M : Int) (n : Int) _ _ _ _ r4 _ (hS.below (below_over _ _)) (hR.below (below_over _ _)) (hG.below (below_over _ _)) HG.out (by decide) hdh hn1000 HR4.out))
  go_big_quiet_step (fail)
  go_big_quiet_step (fail)
  go_big_quiet_step (fail)
  go_big_quiet_step (fail)
  go_big_quiet_step (fail)
  go_big_quiet_step (fail)
  go_big_quiet_step (exact over_below (rcheckG_eq _ _ _ _ _ _ _ _ (M : Int) (n : Int) _ _ _ _ r4 _ (hS.below (below_over _ _)) (hR.below (below_over _ _)) (hG.below (below_over _ _)) HG.out (by decide) hdh hn1000 HR4.out))
  go_big_quiet_step (fail)
  go_big_quiet_step (fail)
  go_big_quiet_step (fail)
  go_big_quiet_step (fail)
  go_big_quiet_step (fail)
  go_big_quiet_step (fail)
  go_big_quiet_step (fail)
  go_big_quiet_step (fail)
  go_big_quiet_step (fail)
  go_big_quiet_step (exact over_below (checkG_eq _ _ _ _ _ _ _ _ nn (n : Int) _ _ _ _ r5 _ (hS.below (below_over _ _)) (hR.below (below_over _ _)) (hG.below (below_over _ _)) HG.out (by decide) hdh hn1000 HR5.out))
  go_big_quiet_step (fail)
  go_big_quiet_step (fail)
  go_big_quiet_step (fail)
  go_big_quiet_step (fail)
  go_big_quiet_step (fail)
  go_big_quiet_step (fail)
  go_big_quiet_step (exact over_below (rcheckG_eq _ _ _ _ _ _ _ _ nn (n : Int) _ _ _ _ r5 _ (hS.below (below_over _ _)) (hR.below (below_over _ _)) (hG.below (below_over _ _)) HG.out (by decide) hdh hn1000 HR5.out))
  go_big_quiet_step (fail)
  go_big_quiet_step (fail)
  go_big_quiet_step (fail)
  go_big_quiet_step (fail)
  go_big_quiet_step (fail)
  go_big_quiet_step (fail)
  go_big_quiet_step (fail)
  go_big_quiet_step (fail)
  go_big_quiet_step (exact over_below (checkG_eq _ _ _ _ _ _ _ _ (M : Int) nn _ _ _ _ r6 _ (hS.below (below_over _ _)) (hR.below (below_over _ _)) (hG.below (below_over _ _)) HG.out (by decide) hdh hnn HR6.out))
  go_big_quiet_step (fail)
  go_big_quiet_step (fail)
  go_big_quiet_step (fail)
  go_big_quiet_step (fail)
  go_big_quiet_step (fail)
  go_big_quiet_step (exact over_below (rcheckG_eq _ _ _ _ _ _ _ _ (M : Int) nn _ _ _ _ r6 _ (hS.below (below_over _ _)) (hR.below (below_over _ _)) (hG.below (below_over _ _)) HG.out (by decide) hdh hnn HR6.out))
  go_big_quiet_step (fail)
  go_big_quiet_step (fail)
  go_big_quiet_step (fail)
  go_big_quiet_step (fail)
  go_big_quiet_step (fail)
  go_big_quiet_step (fail)
  go_big_quiet_step (fail)
  go_big_quiet_step (fail)
  go_big_quiet_step (fail)
  go_big_quiet_step (exact over_below (checkG_eq _ _ _ _ _ _ _ _ (M : Int) (n : Int) _ _ _ _ r7 _ (hR.below (below_over _ _)) (hS.below (below_over _ _)) (hG.below (below_over _ _)) HG.out (by decide) hdh hn1000 HR7.out))
  go_big_quiet_step (fail)
  go_big_quiet_step (fail)
  go_big_quiet_step (fail)
  go_big_quiet_step (fail)
  go_big_quiet_step (fail)
  go_big_quiet_step (fail)
  go_big_quiet_step (exact over_below (rcheckG_eq _ _ _ _ _ _ _ _ (M : Int) (n : Int) _ _ _ _ r7 _ (hR.below (below_over _ _)) (hS.below (below_over _ _)) (hG.below (below_over _ _)) HG.out (by decide) hdh hn1000 HR7.out))
  go_big_quiet_step (fail)
  go_big_quiet_step (fail)
  go_big_quiet_step (fail)
  go_big_quiet_step (exact over_below (merk_known _))
  go_big_quiet_step (fail)
  go_big_quiet_step (fail)
  refine wpQuiet_nil ?_
  rintro _ ⟨nq, rfl⟩
  exact hK _ (hE.step (below_over _ _)) _ _ _ _ _ _ _ _ _ _ _ _ _ _ _ _ _ _ _ _ _ _ _ _ _ _ _ _ _ _ _ _ _ _ _ _ _ _ _ _ _ _ _ _ _ _ _ _ _ _ _ _ _ _ _ _ _ _ _ _ _ _ _ _ _ _ _ _ _ _ _ _ _ _ _ _ _ _ _ _ _ _ _ _ _ _ _ _ _ _ _ _ _ _ _ _ _ _ _ _ _ _ _ _ _ _ _ _ _ _ _ _ _ _ _ _ _ _ _ _ _ _ _ _ _ _ _ _ _ _ _ _ _ _ _ _ _ _ _ _ _ _ _ _ _ _ _ _ _ _ _
end Go.Proofs.Ytaomkjnkfkahhaa
