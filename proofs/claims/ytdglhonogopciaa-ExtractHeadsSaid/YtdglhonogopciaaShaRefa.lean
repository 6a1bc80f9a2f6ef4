/- The contract of permafrostref2.Sum. -/
import Derived.Test.YtdglhonogopciaaShaSum
import Derived.Test.YtdglhonogopciaaClone
import Derived.Test.YtdglhonogopciaaTailB
import Derived.Test.YtdglhonogopciaaTools
import Derived.Test.YtdglhonogopciaaStr
namespace Go.Proofs.Ytdglhonogopciaa
open Go.RowKit
set_option linter.unusedVariables false

def lenOfR : Value → Nat
  | .slice _ n _ => n
  | _ => 0
theorem wd_sumr (x y z t u : UInt32) : (wd x + (wd y + wd z + wd t + wd u)) % (4294967296 : Int) = wd (x + (y + z + t + u)) := by
  rw [← wd_sum x, ← wd_sum4]; omega
theorem Bs.word (W : World) (x : UInt32) : Bs (W.alloc (.cells #[.int .u8 (wd x / 16777216 % 256), .int .u8 (wd x / 65536 % 256), .int .u8 (wd x / 256 % 256), .int .u8 (wd x % 256)] TB)) (some ⟨W.heap.size, 0, none⟩) 4 4 (wbytes x) := by
  refine Bs.newRow W _ TB (0, 0) 4 4 (wbytes x) rfl (Nat.le_refl _) (by simp [maxLen]) ?_
  have e : ∀ n : Nat, bv (UInt8.ofNat n) = .int .u8 ((n : Int) % 256) := fun n => by rw [bv, u8_of]
  simp only [wbytes, List.map_cons, List.map_nil, e]
  unfold wd
  rfl
theorem Chg.ofSetRow (w : World) (g : Nat) (cs : Array Value) : Chg (fun k => k = g) w (w.setRow g cs) := ⟨rfl, rfl, rfl, by simp, fun k _ hk => setRow_other w g k _ hk⟩
/-- what the document's text has at hand while it hashes blocks -/
structure RInv (w0 : World) (B gm cm gh gk : Nat) (m : List UInt8) (n : Nat) (l : List UInt32) (W : World) : Prop where
  ext : Ext B w0 W
  bm : Bs W (some ⟨gm, 0, none⟩) n cm m
  hh : SB W gh TA8 [] l []
  kk : SB W gk T64 [] KK []
theorem RInv.step {w0 W W' : World} {B gm cm gh gk n : Nat} {m : List UInt8} {l : List UInt32} (h : RInv w0 B gm cm gh gk m n l W) (hb : Below W.heap.size W W') : RInv w0 B gm cm gh gk m n l W' :=
  ⟨h.ext.step hb, h.bm.below hb, SB.below h.hh hb, SB.below h.kk hb⟩
theorem RInv.set {w0 W : World} {B gm cm gh gk n : Nat} {m : List UInt8} {l : List UInt32} (h : RInv w0 B gm cm gh gk m n l W) {Z : Nat} (o : Nat) (u : Value) (hZ : gm < gh ∧ gh < gk ∧ gk < Z ∧ B ≤ gm) : RInv w0 B gm cm gh gk m n l (W.setCell ⟨Z, o, none⟩ u) :=
  ⟨h.ext.setCell (p := ⟨Z, o, none⟩) (by show B ≤ Z; omega) u, (Chg.setCell (S := fun k => k = Z) (p := ⟨Z, o, none⟩) (Chg.refl _ W) (fun _ => rfl) u).bs h.bm (fun ad he => by cases he; show ¬ gm = Z; omega), SB.far h.hh (by omega), SB.far h.kk (by omega)⟩
theorem RInv.setRow {w0 W : World} {B gm cm gh gk n : Nat} {m : List UInt8} {l : List UInt32} (h : RInv w0 B gm cm gh gk m n l W) {Z : Nat} (cs : Array Value) (hZ : gm < gh ∧ gh < gk ∧ gk < Z ∧ B ≤ gm) : RInv w0 B gm cm gh gk m n l (W.setRow Z cs) :=
  ⟨h.ext.setRow (by omega) cs, (Chg.ofSetRow W Z cs).bs h.bm (fun ad he => by cases he; show ¬ gm = Z; omega), (setRow_other W Z gh cs (by omega)).trans h.hh, (setRow_other W Z gk cs (by omega)).trans h.kk⟩
theorem RInv.seth {w0 W : World} {B gm cm gh gk n : Nat} {m : List UInt8} {l l' : List UInt32} (h : RInv w0 B gm cm gh gk m n l W) (i : Nat) (hi : i < l.length) (x : UInt32) (hl : l.set i x = l') (hZ : gm < gh ∧ gh < gk ∧ B ≤ gm) : RInv w0 B gm cm gh gk m n l' (W.setCell ⟨gh, i, none⟩ (.int .u32 (wd x))) := by
  have h1 := SB.set h.hh i hi x
  rw [List.length_nil, Nat.zero_add, hl] at h1
  exact ⟨h.ext.setCell (p := ⟨gh, i, none⟩) (by show B ≤ gh; omega) _, (Chg.setCell (S := fun k => k = gh) (p := ⟨gh, i, none⟩) (Chg.refl _ W) (fun _ => rfl) _).bs h.bm (fun ad he => by cases he; show ¬ gm = gh; omega), h1, SB.far h.kk (by omega)⟩
/-- the words of an array of eight of its own -/
theorem SB.at0 {w : World} {g : Nat} {T : TypeId} {l : List UInt32} (h : SB w g T [] l []) (i : Nat) (x : UInt32) (hi : l[i]? = some x) : w.cell? ⟨g, i, none⟩ = some (.int .u32 (wd x)) := by
  obtain ⟨hl, rfl⟩ := List.getElem?_eq_some_iff.1 hi
  have := SB.cell h i hl
  rwa [List.length_nil, Nat.zero_add] at this

theorem word_comm (a b c d : UInt8) : a.toUInt32 <<< 24 ||| b.toUInt32 <<< 16 ||| c.toUInt32 <<< 8 ||| d.toUInt32 = word a b c d := by
  unfold word
  rw [UInt32.or_comm _ d.toUInt32, UInt32.or_comm (a.toUInt32 <<< 24) _, UInt32.or_comm _ (c.toUInt32 <<< 8), ← UInt32.or_assoc, ← UInt32.or_assoc]
def blockOf (n : Nat) : Code → Option Code
  | .block k c => if k = n then some (.block k c) else blockOf n c
  | .seq a b => match blockOf n a with
    | some c => some c
    | none => blockOf n b
  | .loop c => blockOf n c
  | .scope c => blockOf n c
  | .cond _ a b => match blockOf n a with
    | some c => some c
    | none => blockOf n b
  | _ => none
/-- a block of the function's text -/
noncomputable def rblk (n : Nat) : Code := ((Try.f15.body.bind (blockOf n)).getD .skip)

set_option maxHeartbeats 8000000 in
set_option maxRecDepth 1000000 in
theorem rs_pad (w wz : World) (B len : Nat) (xs : List UInt8) (Z : Nat) (a2 : Option Addr) (c2 : Nat) (HX : Hid (xs.length = len)) (hl : len ≤ 1000000) (HZ : Hid ((len + 1 + Z) % 64 = 56 ∧ (∀ k, k < Z → (len + 1 + k) % 64 ≠ 56) ∧ Z = (119 - len % 64) % 64)) (hZ3 : Z < 64) (hE3 : Ext B w wz) (ho2 : Own wz B (.slice a2 (len + 1) c2) (padZ xs 0))
    (σ0 σ1 σ2 σ4 σ5 σ6 σ7 σ8 σ9 σ10 σ11 σ12 σ13 σ14 σ15 σ16 σ17 σ18 σ19 σ20 σ21 σ22 σ23 σ24 σ25 σ26 σ27 σ28 σ29 σ30 σ31 σ32 σ33 σ34 σ35 σ36 σ37 σ38 σ39 σ40 σ41 σ42 σ43 σ44 σ45 σ46 σ47 σ48 σ49 σ50 σ51 σ52 σ53 σ54 σ55 σ56 σ57 σ58 σ59 σ60 σ61 σ62 σ63 σ64 σ65 σ66 σ67 σ68 σ69 σ70 σ71 σ72 σ73 σ74 σ75 σ76 σ77 σ78 σ79 σ80 σ81 σ82 σ83 σ84 σ85 σ86 σ87 σ88 σ89 σ90 σ91 σ92 σ93 σ94 σ95 σ96 σ97 σ98 σ99 σ100 σ101 σ102 σ103 σ104 σ105 σ106 σ107 σ108 σ109 σ110 σ111 σ112 σ113 σ114 σ115 σ116 σ117 σ118 σ119 σ120 σ121 σ122 σ123 σ124 σ125 σ126 σ127 σ128 σ129 σ130 σ131 σ132 σ133 σ134 σ135 σ136 σ137 σ138 σ139 σ140 σ141 σ142 σ143 σ144 σ145 σ146 σ147 σ148 σ149 σ150 σ151 σ152 σ153 σ154 σ155 σ156 σ157 σ158 σ159 σ160 σ161 σ162 σ163 σ164 σ165 σ166 σ167 σ168 σ169 σ170 σ171 σ172 σ173 σ174 σ175 σ176 σ177 σ178 σ179 σ180 σ181 σ182 σ183 σ184 σ185 σ186 σ187 σ188 σ189 σ190 σ191 σ192 σ193 σ194 σ195 σ196 σ197 σ198 σ199 σ200 σ201 σ202 σ203 σ204 σ205 σ206 σ207 σ208 σ209 σ210 σ211 σ212 σ213 σ214 σ215 σ216 σ217 σ218 σ219 σ220 σ221 σ222 σ223 σ224 σ225 σ226 σ227 σ228 σ229 σ230 σ231 σ232 σ233 σ234 σ235 σ236 σ237 σ238 σ239 σ240 σ241 σ242 σ243 σ244 σ245 σ246 σ247 σ248 σ249 σ250 σ251 σ252 σ253 σ254 σ255 σ256 σ257 σ258 σ259 σ260 σ261 σ262 σ263 σ264 σ265 σ266 : Value) (K : Act → World → Prop) (Q : Exit → Act → World → Prop)
    (hR : ∀ a' w', (∃ u3 u27 u28 u29 u30 u31 u32 u33 : Value, (Ext B w w' ∧ Own w' B u3 (padZ xs Z)) ∧ a' = ⟨#[σ0, σ1, σ2, u3, σ4, σ5, σ6, σ7, σ8, σ9, σ10, σ11, σ12, σ13, σ14, σ15, σ16, σ17, σ18, σ19, σ20, σ21, σ22, σ23, σ24, σ25, σ26, u27, u28, u29, u30, u31, u32, u33, σ34, σ35, σ36, σ37, σ38, σ39, σ40, σ41, σ42, σ43, σ44, σ45, σ46, σ47, σ48, σ49, σ50, σ51, σ52, σ53, σ54, σ55, σ56, σ57, σ58, σ59, σ60, σ61, σ62, σ63, σ64, σ65, σ66, σ67, σ68, σ69, σ70, σ71, σ72, σ73, σ74, σ75, σ76, σ77, σ78, σ79, σ80, σ81, σ82, σ83, σ84, σ85, σ86, σ87, σ88, σ89, σ90, σ91, σ92, σ93, σ94, σ95, σ96, σ97, σ98, σ99, σ100, σ101, σ102, σ103, σ104, σ105, σ106, σ107, σ108, σ109, σ110, σ111, σ112, σ113, σ114, σ115, σ116, σ117, σ118, σ119, σ120, σ121, σ122, σ123, σ124, σ125, σ126, σ127, σ128, σ129, σ130, σ131, σ132, σ133, σ134, σ135, σ136, σ137, σ138, σ139, σ140, σ141, σ142, σ143, σ144, σ145, σ146, σ147, σ148, σ149, σ150, σ151, σ152, σ153, σ154, σ155, σ156, σ157, σ158, σ159, σ160, σ161, σ162, σ163, σ164, σ165, σ166, σ167, σ168, σ169, σ170, σ171, σ172, σ173, σ174, σ175, σ176, σ177, σ178, σ179, σ180, σ181, σ182, σ183, σ184, σ185, σ186, σ187, σ188, σ189, σ190, σ191, σ192, σ193, σ194, σ195, σ196, σ197, σ198, σ199, σ200, σ201, σ202, σ203, σ204, σ205, σ206, σ207, σ208, σ209, σ210, σ211, σ212, σ213, σ214, σ215, σ216, σ217, σ218, σ219, σ220, σ221, σ222, σ223, σ224, σ225, σ226, σ227, σ228, σ229, σ230, σ231, σ232, σ233, σ234, σ235, σ236, σ237, σ238, σ239, σ240, σ241, σ242, σ243, σ244, σ245, σ246, σ247, σ248, σ249, σ250, σ251, σ252, σ253, σ254, σ255, σ256, σ257, σ258, σ259, σ260, σ261, σ262, σ263, σ264, σ265, σ266], []⟩) → K a' w') :
    Code.wp Try.prog (rblk 0) (Exit.then K Q) ⟨#[σ0, σ1, σ2, .slice a2 (len + 1) c2, σ4, σ5, σ6, σ7, σ8, σ9, σ10, σ11, σ12, σ13, σ14, σ15, σ16, σ17, σ18, σ19, σ20, σ21, σ22, σ23, σ24, σ25, σ26, σ27, σ28, σ29, σ30, σ31, σ32, σ33, σ34, σ35, σ36, σ37, σ38, σ39, σ40, σ41, σ42, σ43, σ44, σ45, σ46, σ47, σ48, σ49, σ50, σ51, σ52, σ53, σ54, σ55, σ56, σ57, σ58, σ59, σ60, σ61, σ62, σ63, σ64, σ65, σ66, σ67, σ68, σ69, σ70, σ71, σ72, σ73, σ74, σ75, σ76, σ77, σ78, σ79, σ80, σ81, σ82, σ83, σ84, σ85, σ86, σ87, σ88, σ89, σ90, σ91, σ92, σ93, σ94, σ95, σ96, σ97, σ98, σ99, σ100, σ101, σ102, σ103, σ104, σ105, σ106, σ107, σ108, σ109, σ110, σ111, σ112, σ113, σ114, σ115, σ116, σ117, σ118, σ119, σ120, σ121, σ122, σ123, σ124, σ125, σ126, σ127, σ128, σ129, σ130, σ131, σ132, σ133, σ134, σ135, σ136, σ137, σ138, σ139, σ140, σ141, σ142, σ143, σ144, σ145, σ146, σ147, σ148, σ149, σ150, σ151, σ152, σ153, σ154, σ155, σ156, σ157, σ158, σ159, σ160, σ161, σ162, σ163, σ164, σ165, σ166, σ167, σ168, σ169, σ170, σ171, σ172, σ173, σ174, σ175, σ176, σ177, σ178, σ179, σ180, σ181, σ182, σ183, σ184, σ185, σ186, σ187, σ188, σ189, σ190, σ191, σ192, σ193, σ194, σ195, σ196, σ197, σ198, σ199, σ200, σ201, σ202, σ203, σ204, σ205, σ206, σ207, σ208, σ209, σ210, σ211, σ212, σ213, σ214, σ215, σ216, σ217, σ218, σ219, σ220, σ221, σ222, σ223, σ224, σ225, σ226, σ227, σ228, σ229, σ230, σ231, σ232, σ233, σ234, σ235, σ236, σ237, σ238, σ239, σ240, σ241, σ242, σ243, σ244, σ245, σ246, σ247, σ248, σ249, σ250, σ251, σ252, σ253, σ254, σ255, σ256, σ257, σ258, σ259, σ260, σ261, σ262, σ263, σ264, σ265, σ266], []⟩ wz := by
  conv => arg 2; whnf
  refine wp_cut _ hR ?_
  intro J K' hJ hM
  clear hR
  go_wp2_with fail
  go_loopw [3] (fun v wr => ∃ (k : Nat) (av : Option Addr) (cv : Nat), k ≤ Z ∧ v = .slice av (len + 1 + k) cv ∧ Ext B w wr ∧ Own wr B v (padZ xs k)) (fun v _ => len + 1 + Z - lenOfR v)
  case atStart => exact ⟨0, a2, c2, by omega, rfl, hE3, ho2⟩
  case round =>
    obtain ⟨k, av, cv, hk, rfl, hE, ho⟩ := hrel
    clear hE3 ho2
    by_cases hlt : k < Z
    · have hne : (((len + 1 + k : Nat) : Int) % 64 != 56) = true := by rw [bne_iff_ne]; have := HZ.out.2.1 k hlt; omega
      have hol : (padZ xs k).length ≤ 2000000 := by rw [padZ_length, HX.out]; omega
      go_wp2_with (at_builtin; refine append_byte hE ho _ 0 rfl hol rfl _ _ rfl rfl rfl ?_)
      intro v3 w3 hE3 ho3 _
      rw [padZ_succ] at ho3
      obtain ⟨a3, c3, rfl, _⟩ := ho3.bsn (n := len + 1 + (k + 1)) (by rw [padZ_length, HX.out])
      go_wp2_with fail
      go_roundw
      case rel => exact ⟨k + 1, a3, c3, by omega, rfl, hE3, ho3⟩
      case measure => simp [lenOfR]; omega
    · obtain rfl : k = Z := by omega
      have hne : (((len + 1 + k : Nat) : Int) % 64 != 56) = false := by rw [bne_eq_false_iff_eq]; have := HZ.out.1; omega
      go_wp2_with fail
      go_meet
      exact ⟨hE, ho⟩

set_option maxHeartbeats 8000000 in
set_option maxRecDepth 1000000 in
theorem rs_len (w wz : World) (B len : Nat) (xs : List UInt8) (Z : Nat) (σ3 : Value) (hl : len ≤ 1000000) (hZ3 : Z < 64) (hpl : (padZ xs Z).length ≤ 1000100) (HX : Hid (xs.length = len)) (HZ : Hid ((len + 1 + Z) % 64 = 56 ∧ (∀ k, k < Z → (len + 1 + k) % 64 ≠ 56) ∧ Z = (119 - len % 64) % 64)) (hE : Ext B w wz) (ho : Own wz B σ3 (padZ xs Z))
    (σ0 σ1 σ2 σ6 σ7 σ8 σ9 σ10 σ11 σ12 σ13 σ14 σ15 σ16 σ17 σ18 σ19 σ20 σ21 σ22 σ23 σ24 σ25 σ26 σ27 σ28 σ29 σ30 σ31 σ32 σ33 σ34 σ35 σ36 σ37 σ38 σ39 σ40 σ41 σ42 σ43 σ44 σ45 σ46 σ47 σ48 σ49 σ50 σ51 σ52 σ53 σ54 σ55 σ56 σ57 σ58 σ59 σ60 σ61 σ62 σ63 σ64 σ65 σ66 σ67 σ68 σ69 σ70 σ71 σ72 σ73 σ74 σ75 σ76 σ77 σ78 σ79 σ80 σ81 σ82 σ83 σ84 σ85 σ86 σ87 σ88 σ89 σ90 σ91 σ92 σ93 σ94 σ95 σ96 σ97 σ98 σ99 σ100 σ101 σ102 σ103 σ104 σ105 σ106 σ107 σ108 σ109 σ110 σ111 σ112 σ113 σ114 σ115 σ116 σ117 σ118 σ119 σ120 σ121 σ122 σ123 σ124 σ125 σ126 σ127 σ128 σ129 σ130 σ131 σ132 σ133 σ134 σ135 σ136 σ137 σ138 σ139 σ140 σ141 σ142 σ143 σ144 σ145 σ146 σ147 σ148 σ149 σ150 σ151 σ152 σ153 σ154 σ155 σ156 σ157 σ158 σ159 σ160 σ161 σ162 σ163 σ164 σ165 σ166 σ167 σ168 σ169 σ170 σ171 σ172 σ173 σ174 σ175 σ176 σ177 σ178 σ179 σ180 σ181 σ182 σ183 σ184 σ185 σ186 σ187 σ188 σ189 σ190 σ191 σ192 σ193 σ194 σ195 σ196 σ197 σ198 σ199 σ200 σ201 σ202 σ203 σ204 σ205 σ206 σ207 σ208 σ209 σ210 σ211 σ212 σ213 σ214 σ215 σ216 σ217 σ218 σ219 σ220 σ221 σ222 σ223 σ224 σ225 σ226 σ227 σ228 σ229 σ230 σ231 σ232 σ233 σ234 σ235 σ236 σ237 σ238 σ239 σ240 σ241 σ242 σ243 σ244 σ245 σ246 σ247 σ248 σ249 σ250 σ251 σ252 σ253 σ254 σ255 σ256 σ257 σ258 σ259 σ260 σ261 σ262 σ263 σ264 σ265 σ266 : Value) (K : Act → World → Prop) (Q : Exit → Act → World → Prop)
    (hR : ∀ a' w', (∃ u3 u5 u38 u39 u40 u41 u42 u43 u44 u45 u46 u47 u48 u49 : Value, (Ext B w w' ∧ Own w' B u3 (padTo xs len)) ∧ a' = ⟨#[σ0, σ1, σ2, u3, .int .u64 ((len : Int) * 8), u5, σ6, σ7, σ8, σ9, σ10, σ11, σ12, σ13, σ14, σ15, σ16, σ17, σ18, σ19, σ20, σ21, σ22, σ23, σ24, σ25, σ26, σ27, σ28, σ29, σ30, σ31, σ32, σ33, σ34, σ35, σ36, σ37, u38, u39, u40, u41, u42, u43, u44, u45, u46, u47, u48, u49, σ50, σ51, σ52, σ53, σ54, σ55, σ56, σ57, σ58, σ59, σ60, σ61, σ62, σ63, σ64, σ65, σ66, σ67, σ68, σ69, σ70, σ71, σ72, σ73, σ74, σ75, σ76, σ77, σ78, σ79, σ80, σ81, σ82, σ83, σ84, σ85, σ86, σ87, σ88, σ89, σ90, σ91, σ92, σ93, σ94, σ95, σ96, σ97, σ98, σ99, σ100, σ101, σ102, σ103, σ104, σ105, σ106, σ107, σ108, σ109, σ110, σ111, σ112, σ113, σ114, σ115, σ116, σ117, σ118, σ119, σ120, σ121, σ122, σ123, σ124, σ125, σ126, σ127, σ128, σ129, σ130, σ131, σ132, σ133, σ134, σ135, σ136, σ137, σ138, σ139, σ140, σ141, σ142, σ143, σ144, σ145, σ146, σ147, σ148, σ149, σ150, σ151, σ152, σ153, σ154, σ155, σ156, σ157, σ158, σ159, σ160, σ161, σ162, σ163, σ164, σ165, σ166, σ167, σ168, σ169, σ170, σ171, σ172, σ173, σ174, σ175, σ176, σ177, σ178, σ179, σ180, σ181, σ182, σ183, σ184, σ185, σ186, σ187, σ188, σ189, σ190, σ191, σ192, σ193, σ194, σ195, σ196, σ197, σ198, σ199, σ200, σ201, σ202, σ203, σ204, σ205, σ206, σ207, σ208, σ209, σ210, σ211, σ212, σ213, σ214, σ215, σ216, σ217, σ218, σ219, σ220, σ221, σ222, σ223, σ224, σ225, σ226, σ227, σ228, σ229, σ230, σ231, σ232, σ233, σ234, σ235, σ236, σ237, σ238, σ239, σ240, σ241, σ242, σ243, σ244, σ245, σ246, σ247, σ248, σ249, σ250, σ251, σ252, σ253, σ254, σ255, σ256, σ257, σ258, σ259, σ260, σ261, σ262, σ263, σ264, σ265, σ266], []⟩) → K a' w') :
    Code.wp Try.prog (rblk 2) (Exit.then K Q) ⟨#[σ0, σ1, σ2, σ3, .int .u64 ((len : Int) * 8), .int .i64 56, σ6, σ7, σ8, σ9, σ10, σ11, σ12, σ13, σ14, σ15, σ16, σ17, σ18, σ19, σ20, σ21, σ22, σ23, σ24, σ25, σ26, σ27, σ28, σ29, σ30, σ31, σ32, σ33, σ34, σ35, σ36, σ37, σ38, σ39, σ40, σ41, σ42, σ43, σ44, σ45, σ46, σ47, σ48, σ49, σ50, σ51, σ52, σ53, σ54, σ55, σ56, σ57, σ58, σ59, σ60, σ61, σ62, σ63, σ64, σ65, σ66, σ67, σ68, σ69, σ70, σ71, σ72, σ73, σ74, σ75, σ76, σ77, σ78, σ79, σ80, σ81, σ82, σ83, σ84, σ85, σ86, σ87, σ88, σ89, σ90, σ91, σ92, σ93, σ94, σ95, σ96, σ97, σ98, σ99, σ100, σ101, σ102, σ103, σ104, σ105, σ106, σ107, σ108, σ109, σ110, σ111, σ112, σ113, σ114, σ115, σ116, σ117, σ118, σ119, σ120, σ121, σ122, σ123, σ124, σ125, σ126, σ127, σ128, σ129, σ130, σ131, σ132, σ133, σ134, σ135, σ136, σ137, σ138, σ139, σ140, σ141, σ142, σ143, σ144, σ145, σ146, σ147, σ148, σ149, σ150, σ151, σ152, σ153, σ154, σ155, σ156, σ157, σ158, σ159, σ160, σ161, σ162, σ163, σ164, σ165, σ166, σ167, σ168, σ169, σ170, σ171, σ172, σ173, σ174, σ175, σ176, σ177, σ178, σ179, σ180, σ181, σ182, σ183, σ184, σ185, σ186, σ187, σ188, σ189, σ190, σ191, σ192, σ193, σ194, σ195, σ196, σ197, σ198, σ199, σ200, σ201, σ202, σ203, σ204, σ205, σ206, σ207, σ208, σ209, σ210, σ211, σ212, σ213, σ214, σ215, σ216, σ217, σ218, σ219, σ220, σ221, σ222, σ223, σ224, σ225, σ226, σ227, σ228, σ229, σ230, σ231, σ232, σ233, σ234, σ235, σ236, σ237, σ238, σ239, σ240, σ241, σ242, σ243, σ244, σ245, σ246, σ247, σ248, σ249, σ250, σ251, σ252, σ253, σ254, σ255, σ256, σ257, σ258, σ259, σ260, σ261, σ262, σ263, σ264, σ265, σ266], []⟩ wz := by
  conv => arg 2; whnf
  refine wp_cut _ hR ?_
  intro J K' hJ hM
  clear hR
  go_wp2_with fail
  go_loopw [3, 5] (fun v i wr => ∃ j : Nat, j ≤ 8 ∧ i = .int .i64 (56 - 8 * (j : Int)) ∧ Ext B w wr ∧ Own wr B v (padZ xs Z ++ (padTo.be8 len).take j)) (fun _ i _ => (8 + intOf i).toNat)
  case atStart => exact ⟨0, by omega, rfl, hE, by simpa using ho⟩
  case round =>
    obtain ⟨j, hj, rfl, hE1, ho1⟩ := hrel
    clear hE ho
    by_cases hlt : j < 8
    · have hol : (padZ xs Z ++ (padTo.be8 len).take j).length ≤ 2000000 := by
        rw [List.length_append]
        have : ((padTo.be8 len).take j).length ≤ j := List.length_take_le _ _
        omega
      have htk := be8_take len j hlt
      generalize hL : padZ xs Z ++ (padTo.be8 len).take j = L at *
      have HL := Lib.hid (show L ++ [(padTo.be8 len).getD j 0] = padZ xs Z ++ (padTo.be8 len).take (j + 1) by rw [htk, ← hL, List.append_assoc])
      clear htk hL
      rcases (show j = 0 ∨ j = 1 ∨ j = 2 ∨ j = 3 ∨ j = 4 ∨ j = 5 ∨ j = 6 ∨ j = 7 by omega) with rfl | rfl | rfl | rfl | rfl | rfl | rfl | rfl
      · have hb0 : (((padTo.be8 len).getD 0 0).toNat : Int) = ((8 * len / 72057594037927936 : Nat) : Int) % 256 := by
          show ((UInt8.ofNat (8 * len / 72057594037927936)).toNat : Int) = _
          rw [u8_of]
        generalize (padTo.be8 len).getD 0 0 = x at *
        have HB := Lib.hid hb0
        clear hb0
        go_wp2_with (at_builtin; refine append_byte hE1 ho1 _ x ?hb0 hol rfl _ _ rfl rfl rfl ?_)
        case hb0 => rw [HB.out]; omega
        intro v3 w3 hE3 ho3 _
        rw [HL.out] at ho3
        go_wp2_with fail
        go_roundw
        case rel => exact ⟨1, by omega, rfl, hE3, ho3⟩
        case measure => simp [intOf]
      · have hb1 : (((padTo.be8 len).getD 1 0).toNat : Int) = ((8 * len / 281474976710656 : Nat) : Int) % 256 := by
          show ((UInt8.ofNat (8 * len / 281474976710656)).toNat : Int) = _
          rw [u8_of]
        generalize (padTo.be8 len).getD 1 0 = x at *
        have HB := Lib.hid hb1
        clear hb1
        go_wp2_with (at_builtin; refine append_byte hE1 ho1 _ x ?hb1 hol rfl _ _ rfl rfl rfl ?_)
        case hb1 => rw [HB.out]; omega
        intro v3 w3 hE3 ho3 _
        rw [HL.out] at ho3
        go_wp2_with fail
        go_roundw
        case rel => exact ⟨2, by omega, rfl, hE3, ho3⟩
        case measure => simp [intOf]
      · have hb2 : (((padTo.be8 len).getD 2 0).toNat : Int) = ((8 * len / 1099511627776 : Nat) : Int) % 256 := by
          show ((UInt8.ofNat (8 * len / 1099511627776)).toNat : Int) = _
          rw [u8_of]
        generalize (padTo.be8 len).getD 2 0 = x at *
        have HB := Lib.hid hb2
        clear hb2
        go_wp2_with (at_builtin; refine append_byte hE1 ho1 _ x ?hb2 hol rfl _ _ rfl rfl rfl ?_)
        case hb2 => rw [HB.out]; omega
        intro v3 w3 hE3 ho3 _
        rw [HL.out] at ho3
        go_wp2_with fail
        go_roundw
        case rel => exact ⟨3, by omega, rfl, hE3, ho3⟩
        case measure => simp [intOf]
      · have hb3 : (((padTo.be8 len).getD 3 0).toNat : Int) = ((8 * len / 4294967296 : Nat) : Int) % 256 := by
          show ((UInt8.ofNat (8 * len / 4294967296)).toNat : Int) = _
          rw [u8_of]
        generalize (padTo.be8 len).getD 3 0 = x at *
        have HB := Lib.hid hb3
        clear hb3
        go_wp2_with (at_builtin; refine append_byte hE1 ho1 _ x ?hb3 hol rfl _ _ rfl rfl rfl ?_)
        case hb3 => rw [HB.out]; omega
        intro v3 w3 hE3 ho3 _
        rw [HL.out] at ho3
        go_wp2_with fail
        go_roundw
        case rel => exact ⟨4, by omega, rfl, hE3, ho3⟩
        case measure => simp [intOf]
      · have hb4 : (((padTo.be8 len).getD 4 0).toNat : Int) = ((8 * len / 16777216 : Nat) : Int) % 256 := by
          show ((UInt8.ofNat (8 * len / 16777216)).toNat : Int) = _
          rw [u8_of]
        generalize (padTo.be8 len).getD 4 0 = x at *
        have HB := Lib.hid hb4
        clear hb4
        go_wp2_with (at_builtin; refine append_byte hE1 ho1 _ x ?hb4 hol rfl _ _ rfl rfl rfl ?_)
        case hb4 => rw [HB.out]; omega
        intro v3 w3 hE3 ho3 _
        rw [HL.out] at ho3
        go_wp2_with fail
        go_roundw
        case rel => exact ⟨5, by omega, rfl, hE3, ho3⟩
        case measure => simp [intOf]
      · have hb5 : (((padTo.be8 len).getD 5 0).toNat : Int) = ((8 * len / 65536 : Nat) : Int) % 256 := by
          show ((UInt8.ofNat (8 * len / 65536)).toNat : Int) = _
          rw [u8_of]
        generalize (padTo.be8 len).getD 5 0 = x at *
        have HB := Lib.hid hb5
        clear hb5
        go_wp2_with (at_builtin; refine append_byte hE1 ho1 _ x ?hb5 hol rfl _ _ rfl rfl rfl ?_)
        case hb5 => rw [HB.out]; omega
        intro v3 w3 hE3 ho3 _
        rw [HL.out] at ho3
        go_wp2_with fail
        go_roundw
        case rel => exact ⟨6, by omega, rfl, hE3, ho3⟩
        case measure => simp [intOf]
      · have hb6 : (((padTo.be8 len).getD 6 0).toNat : Int) = ((8 * len / 256 : Nat) : Int) % 256 := by
          show ((UInt8.ofNat (8 * len / 256)).toNat : Int) = _
          rw [u8_of]
        generalize (padTo.be8 len).getD 6 0 = x at *
        have HB := Lib.hid hb6
        clear hb6
        go_wp2_with (at_builtin; refine append_byte hE1 ho1 _ x ?hb6 hol rfl _ _ rfl rfl rfl ?_)
        case hb6 => rw [HB.out]; omega
        intro v3 w3 hE3 ho3 _
        rw [HL.out] at ho3
        go_wp2_with fail
        go_roundw
        case rel => exact ⟨7, by omega, rfl, hE3, ho3⟩
        case measure => simp [intOf]
      · have hb7 : (((padTo.be8 len).getD 7 0).toNat : Int) = ((8 * len / 1 : Nat) : Int) % 256 := by
          show ((UInt8.ofNat (8 * len)).toNat : Int) = _
          rw [u8_of]; simp
        generalize (padTo.be8 len).getD 7 0 = x at *
        have HB := Lib.hid hb7
        clear hb7
        go_wp2_with (at_builtin; refine append_byte hE1 ho1 _ x ?hb7 hol rfl _ _ rfl rfl rfl ?_)
        case hb7 => rw [HB.out]; omega
        intro v3 w3 hE3 ho3 _
        rw [HL.out] at ho3
        go_wp2_with fail
        go_roundw
        case rel => exact ⟨8, by omega, rfl, hE3, ho3⟩
        case measure => simp [intOf]
    · obtain rfl : j = 8 := by omega
      go_wp2_with fail
      go_meet
      exact ⟨hE1, by rw [padTo_eq xs len Z (by rw [HX.out]; exact HZ.out.2.2)]; exact ho1⟩
end Go.Proofs.Ytdglhonogopciaa
