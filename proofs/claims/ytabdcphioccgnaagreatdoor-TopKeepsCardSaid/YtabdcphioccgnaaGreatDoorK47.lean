/- KeepVault2; Crash; KeepSteps. -/
import Derived.Test.YtabdcphioccgnaaGreatDoorK46
set_option maxRecDepth 100000
set_option maxHeartbeats 8000000
namespace Go.Proofs.YtabdcphioccgnaaGreatDoor
section
open Go.RowKit Go.ChangeMaps Go.MapKept
def mkP (σ : StM) (M : LogM) (gen : Nat) : PtV:=⟨⟨gen,M.next - 1,M.sealed,M.head,stBytes σ.T σ.S σ.now⟩,σ.T,σ.S,σ.now⟩
variable {w : World} {B0 n g d v c : Nat} {S S' : List UInt8} {V : VltM} {P0 P1 : PtV} {sg : Nat -> List UInt8}
theorem newer_a {P0 P1 : PtV} (h : P1.m.gen < P0.m.gen) : newerP P0 P1 = P0:=if_pos (Nat.le_of_lt h)
theorem newer_b {P0 P1 : PtV} (h : P0.m.gen < P1.m.gen) : newerP P0 P1 = P1:=if_neg (by omega)
theorem KD.save {M1 : LogM} {sq : Nat} {x y : Int} (hK : KDk n g S P0 P1 sg) (le0 : P0.m.gen <= V.gen) (le1 : P1.m.gen <= V.gen) (hlog : LogOk g M1) (hone : 1 <= M1.next) (hz : ∀ i : Nat,M1.sealed <= i -> i < g -> sg i = List.replicate 1024 0) (hP : (mkP V.σ M1 (V.gen + 1)).Good g (n / 4) 1)
  (hS : ∀ i,i < n -> secOf S' i = sect S (layM nM (ptFirst (n / 4) (V.gen + 1)) (ptBytes (n / 4) (mkP V.σ M1 (V.gen + 1)).m) (n / 4)) i) :
  ∃ P0' P1',KD n g S' ⟨V.σ,M1,V.gen + 1,sq,x,y⟩ P0' P1' sg /\ newerP P0' P1' = mkP V.σ M1 (V.gen + 1):=by
 have hrm:=hK.room
 have hb : (ptBytes (n / 4) (mkP V.σ M1 (V.gen + 1)).m).length = 128 * (n / 4):=ptB_length (n / 4) _ hP.right.2.2.2.2.2 hP.room
 have hs:=hK.ok.save (by omega) hrm.1 hb hS
 unfold ptSet at hs
 have hgP : (mkP V.σ M1 (V.gen + 1)).m.gen = V.gen + 1:=rfl
 by_cases hpar : (V.gen + 1) % 2 = 0
 ·rw [if_pos hpar,if_neg (by omega)] at hs
  exact ⟨mkP V.σ M1 (V.gen + 1),P1,⟨⟨hK.hn,hK.hp,hs,hP,hK.g1,hpar,hK.p1⟩,hz,Nat.le_refl _,Nat.le_succ_of_le le1,hlog,hone⟩,newer_a (by rw [hgP]; omega)⟩
 ·rw [if_neg hpar,if_pos (by omega)] at hs
  exact ⟨P0,mkP V.σ M1 (V.gen + 1),⟨⟨hK.hn,hK.hp,hs,hK.g0,hP,hK.p0,by rw [hgP]; omega⟩,hz,Nat.le_succ_of_le le0,Nat.le_refl _,hlog,hone⟩,newer_b (by rw [hgP]; omega)⟩
theorem k_sync (hg : Glob w) (hK : KMem w B0 n g d v S V) (hD : KD n g S V P0 P1 sg) (hf : ∀ i,V.σ.fds i = none) (ok : TrGood 1 V.σ.T) (hsh : Shut0 V.σ.T) (hsn : Sn0 V.σ.S) (hnow : V.σ.now <= 1099511627776) (hbl : (stBytes V.σ.T V.σ.S V.σ.now).length + 94 <= 128 * (n / 4)) (hgen : V.gen <= 1000000) (hnx : V.M.next + V.M.wait.length <= 1000000) (hroom : V.M.sealed < g) :
  Calls Tryz.prog 5 #[.pointer (some ⟨v,0,none⟩),.agg (ovCells ((17 : Nat) : Int) (strOf []) (strOf []) 0 0 0 0 0 none 0 0)] w fun e w' => e = .returned (.agg (rpC 0 0 (.slice none 0 0) (.slice none 0 0) zeroNd)) /\ (∃ S' V' P0' P1' sg',KMem w' B0 n g d v S' V' /\ KD n g S' V' P0' P1' sg' /\ V'.σ = V.σ /\ V'.M.wait = [] /\ V.M.sealed <= V'.M.sealed /\ V'.M.sealed <= V.M.sealed + 1 /\ V'.M.next = V.M.next + V.M.wait.length /\ V'.gen = V.gen + 1 /\ newerP P0' P1' = mkP V'.σ V'.M V'.gen) /\ Fr B0 w w':=by
 obtain ⟨B,sb,mb,st,l,lh,wv,iv,hv,h1,h2,h3⟩:=hK
 have hrm:=hD.dk.room
 have hone:=hD.one
 have hno:=hsn.no
 have hc8 : V.σ.S.l.length <= 8:=by rw [hno]; exact Nat.zero_le _
 have hDO:=vd_sync (B:=B) hg V.σ [] [] (by decide) (by decide) 0 0 0 0 0 none 0 0
 obtain ⟨hM1,hM2,hM3,hM4⟩:=shutM_ok hD.log hD.one (fun _ => by omega)
 have hse : V.M.sealed <= (shutM V.M).sealed /\ (shutM V.M).sealed <= V.M.sealed + 1 /\ (shutM V.M).next = V.M.next + V.M.wait.length:=by
  unfold shutM
  split
  ·rename_i hw
   rw [hw]
   exact ⟨Nat.le_refl _,Nat.le_succ _,rfl⟩
  ·exact ⟨Nat.le_succ _,Nat.le_refl _,rfl⟩
 have hr : Mk.right ⟨V.gen + 1,(shutM V.M).next - 1,(shutM V.M).sealed,(shutM V.M).head,stBytes V.σ.T V.σ.S V.σ.now⟩ g:=⟨by show 1 <= V.gen + 1; omega,by show V.gen + 1 <= 1099511627776; omega,by show (shutM V.M).next - 1 <= 1099511627776; omega,by show (0 : Int) <= ((shutM V.M).sealed : Int); omega,hM4.sl,hM4.hd⟩
 have hP : (mkP V.σ (shutM V.M) (V.gen + 1)).Good g (n / 4) 1:=⟨hr,hbl,rfl,ok,hsh,hsn,hnow⟩
 refine (vdo_sync h1 ok.ok (by omega) hc8 h2 17 (by omega) [] [] 0 0 0 0 0 none 0 0 V.σ 0 zeroNd rfl rfl hD.dk.hp hD.log hD.one rfl hf 1 ok.ok (by omega) hsh hsn hbl hr h3 (fun _ => by omega) (fun _ => by omega) hDO).mono ?_
 rintro e w' ⟨rfl,⟨st',lh',iv',hv',S',h,S1,hS1,hS⟩,hF⟩
 obtain ⟨sg1,hdk,hz⟩ : ∃ sg1,KDk n g S1 P0 P1 sg1 /\ ∀ i : Nat,(shutM V.M).sealed <= i -> i < g -> sg1 i = List.replicate 1024 0:=by
  unfold ShutS at hS1
  unfold shutM
  by_cases hw : V.M.wait = []
  ·rw [if_pos hw] at hS1 ⊢
   subst hS1
   exact ⟨sg,hD.dk,hD.z⟩
  ·rw [if_neg hw] at hS1 ⊢
   have hsb : (segBytes V.M.sealed V.M.next V.M.head V.M.wait).length = 1024:=segBytes_length _ _ _ _ hD.log.hd (fitsN_all _ _ (fun q hq => rc_m h1.log hq) hD.log.fit).2
   refine ⟨_,⟨hD.dk.hn,hD.dk.hp,hD.dk.ok.seal hrm.1 hroom hsb hS1,hD.dk.g0,hD.dk.g1,hD.dk.p0,hD.dk.p1⟩,fun i hi hg => ?_⟩
   have hi' : V.M.sealed + 1 <= i:=hi
   rw [if_neg (by omega)]
   exact hD.z i (by omega) hg
 obtain ⟨P0',P1',hd,hne⟩:=KD.save hdk hD.le0 hD.le1 hM4 hM2 hz hP hS
 exact ⟨rfl,⟨S',_,P0',P1',_,⟨B,sb,mb,st',l,lh',_,iv',hv',h,h2,fun _ => rfl⟩,hd,rfl,hM1,hse.1,hse.2.1,hse.2.2,rfl,hne⟩,hF⟩
theorem open_log {g fr nx : Nat} {id H : List UInt8} {r : Rc} (hr : r.core = (2,(openM fr id H nx).next,[])) (hm : r.ys.length = r.m) (hg : g <= 65535) (hfr : fr < g) (hH : H.length = 32) (hn : nx <= 1000000) : LogOk g { openM fr id H nx with wait:=[r] }:=by
 unfold Rc.core at hr
 injection hr with h1 h2
 injection h2 with h2 h3
 have hm0 : r.m = 0:=by rw [<- hm,h3]; rfl
 have hnx : (openM fr id H nx).next <= 1000000:=by
  show (if fr = 0 then 1 else nx) <= _
  split <;> omega
 have hrok : RecOk r.k r.q r.m:=⟨by rw [h2]; omega,by rw [hm0]; omega,.inr ⟨h1,hm0⟩⟩
 refine ⟨by omega,by omega,by show (fr : Int) <= g; omega,?_,by show (openM fr id H nx).next + 1 <= _; omega,?_,by show 1 <= 1000; omega,fun j hj => ?_⟩
 ·show (if fr = 0 then sha (3 :: id) else H).length = 32
  split
  ·exact sha_length _
  ·exact hH
 ·exact fitsN_of _ _ (fun x hx => by rw [List.mem_singleton.1 hx]; exact hrok) (by rw [waitB_cons,hm0]; show 15 + 0 + 0 <= 942; omega)
 ·have hj' : j < 1:=hj
  obtain rfl : j = 0:=by omega
  show r.q = _
  rw [h2]; rfl
theorem k_open {sb mb : Nat} (hD : Dk w d sb mb n S nM) (hB : B0 <= w.heap.size /\ B0 <= d /\ B0 <= sb /\ B0 <= mb) (hk : KDk n g S P0 P1 sg) (P : PtV) (hne : newerP P0 P1 = P) (fr : Nat) (hfr : P.m.seg = (fr : Int)) (hfg : fr < g) (hz : ∀ i : Nat,fr <= i -> i < g -> sg i = List.replicate 1024 0) (hq : P.m.seq <= 900000) :
  Calls Tryz.prog 7 #[.pointer (some ⟨d,0,none⟩)] w fun e w' => (∃ v V',e = .returned (.tuple #[.pointer (some ⟨v,0,none⟩),.int .i64 0]) /\ KMem w' B0 n g d v S V' /\ KD n g S V' P0 P1 sg /\ V'.σ = P.st /\ V'.M.sealed = fr /\ V'.M.next = (if fr = 0 then 1 else P.m.seq + 1) /\ V'.M.wait.length = 1 /\ waitB V'.M.wait = 15 /\ V'.gen = P.m.gen) /\ Below w.heap.size w w':=by
 have hgd:=newerP_good hk.g0 hk.g1
 have h:=vopen_ok hD hk.hn g 1 hk.hp.2.2.2 idB rfl P0 P1 sg hk.ok hk.g0 hk.g1 (by omega) (by rw [hne]; omega) (by rw [hne,hfr]; omega) (fun i h1 h2 => hz i (by rw [hne,hfr] at h1; omega) h2)
 rw [hne] at h hgd
 rw [hfr,show ((fr : Int)).toNat = fr from rfl] at h
 refine h.mono ?_
 rintro e w' ⟨v,st,l,iv,hv,rfl,hv1,hz1,hl1,⟨lh,wv,r,hr,hL⟩,hI,hS,hDk,hb⟩
 have hm:=rc_m hL (List.mem_singleton.2 rfl)
 have hlt:=hD.lt
 have hm0 : r.m = 0:=by
  rw [<- hm]
  unfold Rc.core at hr
  injection hr with _ hr
  injection hr with _ hr
  rw [hr]; rfl
 have hgen : P0.m.gen <= P.m.gen /\ P1.m.gen <= P.m.gen:=by
  rw [<- hne]
  unfold newerP
  split <;> omega
 have hrm:=hk.room
 refine ⟨⟨v,⟨P.st,{ openM fr idB P.m.head (P.m.seq + 1) with wait:=[r] },P.m.gen,P.m.seq,(fr : Int),0⟩,rfl,⟨w.heap.size,sb,mb,st,l,lh,wv,iv,hv,⟨hz1,hS.any0 hgd.sn.no (fun _ => rfl) (Nat.le_refl _) (Nat.le_refl _),hL,hI,hDk,hv1,hl1,hlt.1,hlt.2.1,hlt.2.2⟩,hB,fun e => by cases e⟩,⟨hk,fun i h1 h2 => hz i h1 h2,hgen.1,hgen.2,open_log hr hm (by omega) hfg hgd.right.2.2.2.2.2 (by omega),?_⟩,rfl,rfl,rfl,rfl,?_,rfl⟩,hb⟩
 ·show 1 <= (if fr = 0 then 1 else P.m.seq + 1)
  split <;> omega
 ·show waitB [r] = 15
  rw [waitB_cons,hm0]; rfl
end
section
open Go.RowKit Go.ChangeMaps Go.MapKept Go.Maps Go.Sort Go.Shelf
theorem dirty_raw (d b nn : Nat) (D0 : DataW Value) (w : World) (hown : w.ownsMap Tryz.prog TI64 RH b nn D0) (c1 : w.cell? ⟨d,1,none⟩ = some (.map (some b))) (hmax : Maps.size D0 <= maxLen) (hbytes : Maps.size D0 * 8 <= 140737488355328) :
  Calls Tryz.prog 25 #[.pointer (some ⟨d,0,none⟩)] w fun e w' => ∃ (v : Value) (ss : List Int),e = .returned v /\ ss.Perm (intKeys D0) /\ (v = .slice none 0 0 ↔ ss = []) /\ Below w.heap.size w w':=by
 refine (callsIn_wide (n:=6)).1 ?_
 have hbl:=hown.lt
 have hseq : SeqGives Fence.wide 2 Tryz.prog 153 #[.pointer (some ⟨w.heap.size,0,none⟩)] encZ (fun ss => ss.Perm (intKeys D0)) (Maps.size D0) (w.alloc (.cells #[.map (some b)] 76)) :=
  AnyZI.keys_gives (ρ:=Tryz.keysD_ren) { Tryz.keysD with } Fence.wide _ trivial rfl (by omega) w.heap.size b nn D0 _ (by simp) (by simp) (by
   obtain ⟨es,clock,hb,Ft,hs,hD⟩:=hown
   exact ⟨es,clock,(Below.heap_alloc _ _ b hbl).trans hb,Ft,hs,hD⟩)
 have cK : ∀ mb W,CallsIn Fence.wide 5 Tryz.prog 82 #[.map mb] W fun e w' => e = .returned (.func (.func 153) #[] #[.pointer (some ⟨W.heap.size,0,none⟩)]) /\ w' = W.alloc (.cells #[.map mb] 76):=fun mb W => AnyZI.keys_in Tryz.keysD Fence.wide 5 trivial rfl mb W
 have cS:=AnyZI.sorted_in Tryz.sortedI Fence.wide 5 trivial trivial trivial trivial rfl (by omega) (sortsI _) (enters_of Tryz.func152 (by kernel_rfl) rfl) 153 #[.pointer (some ⟨w.heap.size,0,none⟩)] trivial (enters_of Tryz.func153 (by kernel_rfl) rfl) _ _ hmax hbytes _ hseq
 change CallsIn _ _ Tryz.prog 81 _ _ _ at cS
 have hfK : Fence.wide.fn 82:=trivial
 have hfS : Fence.wide.fn 81:=trivial
 clear hown hseq
 refine callsIn_of_wp Tryz.func25 rfl trivial ?_ rfl
 simp only [Tryz.ntmps25,List.size_toArray,List.length_cons,List.length_nil,Nat.reduceAdd,Nat.reduceSub,Array.replicate_succ,Array.replicate_zero,List.push_toArray,List.append_toArray,List.nil_append,List.cons_append]
 gi_wp2_with (first
  | (gi_at_call 82; refine (cK _ _).mono ?_; rintro e w' ⟨rfl,rfl⟩)
  | (gi_at_call 81; refine cS.mono ?_; rintro e w' ⟨v,ss,rfl,hS,hrow,hnil,hb⟩))
 go_ret
 exact ⟨v,ss,rfl,hS,hnil,((Below.refl _ w).alloc (Nat.le_refl _) _).trans (hb.mono (by simp))⟩
theorem dirty_none {w : World} {d sb mb n : Nat} {S : List UInt8} (h : Dk w d sb mb n S nM) :
  Calls Tryz.prog 25 #[.pointer (some ⟨d,0,none⟩)] w fun e w' => e = .returned (.slice none 0 0) /\ Below w.heap.size w w':=by
 obtain ⟨_,_,_,⟨cap,wr,h4,_⟩,L,hL,_,hL1⟩:=h
 have hnil : L = []:=by
  cases L with
  | nil => rfl
  | cons p L =>
   obtain ⟨v,hv⟩:=getK_mem (p:=p) (List.mem_cons_self ..)
   obtain ⟨_,_,_,_,_,_,hM,_⟩:=hL1 _ _ hv
   cases hM
 subst hnil
 have c1 : w.cell? ⟨d,1,none⟩ = some (.map (some mb)):=cells_at h4 1
 refine (dirty_raw d mb _ _ w hL c1 (by rw [mapK_size]; exact Nat.zero_le _) (by rw [mapK_size]; exact Nat.zero_le _)).mono ?_
 rintro e w' ⟨v,ss,rfl,hp,hn,hb⟩
 have hss : ss = []:=by
  rw [intKeys_mapK] at hp
  exact List.Perm.eq_nil hp
 exact ⟨by rw [hn.2 hss],hb⟩
theorem crash_none {w : World} {d sb mb n : Nat} {S : List UInt8} (h : Dk w d sb mb n S nM) (torn cut : Int) :
  Calls Tryz.prog 6 #[.pointer (some ⟨d,0,none⟩),.slice none 0 0,.int .i64 torn,.int .i64 cut] w fun e w' => e = .returned (.tuple #[]) /\ Dk w' d sb mb n S nM /\ Chg (fun k => k = mb) w w':=by
 have HD:=qh (dirty_none h)
 have H:=qh h
 clear h
 go_enter Tryz.func6,Tryz.ntmps6
 go_wp2_with fail
 refine HD.out.mono ?_
 rintro e w1 ⟨rfl,hb1⟩
 have h1:=H.out.below hb1
 have hlt:=h1.lt
 obtain ⟨hne,hS,hn,⟨cap,wr,h4,h5⟩,L,hL,hL0,hL1⟩:=h1
 obtain ⟨w2,hcl,hL2,ht2⟩:=MapAt.clear (S:=numS) hL Tryz.underlying76 0
 have hcl' : ∀ ty,(Builtin.clear_ #[76] ty #[.map (some mb)]).run Tryz.prog w1 = .ok (.tuple #[]) w2:=fun ty => hcl
 have hc:=turned_chg ht2
 have c1 : w1.cell? ⟨d,1,none⟩ = some (.map (some mb)):=cells_at h4 1
 have HF:=qh (show Dk w2 d sb mb n S nM /\ Chg (fun k => k = mb) w w2 from
  ⟨⟨hne,hS,hn,⟨cap,wr,(hc.block d hlt.1 hne.2.1).trans h4,hc.row h5 hne.2.2⟩,[],hL2,fun _ _ => rfl,fun i v hi => by simp [getK] at hi⟩,(Chg.of_below hb1 _).two hc⟩)
 clear hb1 hlt hne hS hn h4 h5 hL hL0 hL1 hcl hL2 ht2 hc HD
 go_wp2_with fail
 refine wp_loop_rounds 2 ?_
 rw [rounds_succ]
 go_wp2_with (first
  | (at_builtin; refine wpList_clear_map rfl _ _ rfl _ rfl hcl' ?_)
  | go_in)
 go_end0
 exact ⟨rfl,HF.out⟩
end
section
open Go.RowKit Go.ChangeMaps Go.MapKept
structure KL (w wr : World) (d v i now q : Nat) (S : List UInt8) (V : VltM) (P0 P1 : PtV) (sg : Nat -> List UInt8) : Prop where
 mem : KMem wr w.heap.size 1200 74 d v S V
 dk : KD 1200 74 S V P0 P1 sg
 st : V.σ = aSt [] now
 n5 : 5 <= now
 n1 : now < 1000
 s1 : 1 <= V.M.sealed
 s2 : V.M.sealed <= 1 + i
 nx : V.M.next <= 10 + 3 * i
 wl : V.M.wait.length <= q
 wb : waitB V.M.wait <= q * 100
 gn : V.gen <= 2 + i
 bl : Below w.heap.size w wr
def nowMax (now u : Nat) : Nat:=if u < now then now else u
variable {w wr : World} {d v i now q : Nat} {S : List UInt8} {V : VltM} {P0 P1 : PtV} {sg : Nat -> List UInt8}
theorem KL.below (h : KL w wr d v i now q S V P0 P1 sg) {w' : World} (hb : Below wr.heap.size wr w') : KL w w' d v i now q S V P0 P1 sg :=
 { h with mem:=h.mem.below hb,bl:=h.bl.trans (hb.mono h.bl.size) }
theorem keep_step (hg : Glob w) (h : KL w wr d v i now 1 S V P0 P1 sg) (hi : i < 15) (u : Nat) (hu : u < 200) :
  Calls Tryz.prog 5 #[.pointer (some ⟨v,0,none⟩),.agg (ovCells ((13 : Nat) : Int) (strOf [47,97]) (strOf []) 0 0 0 u 0 none 0 0)] wr fun e w' => e = .returned (.agg (noC (if u < now then 28 else 0) 0)) /\ (∃ V',KL w w' d v i (nowMax now u) 2 S V' P0 P1 sg) /\ Fr w.heap.size wr w':=by
 have hgr:=hg.below h.bl
 have h1:=h.n1
 have h5:=h.n5
 have hok : TrOk 1 V.σ.T:=by rw [h.st]; exact tr_a [] now true (by decide) (by omega)
 have h8 : V.σ.S.l.length <= 8:=by rw [h.st]; exact Nat.zero_le _
 have hdo : ∀ B,VDo wr B V.σ (if u < now then aSt [] now else aSt [] u) (ovCells ((13 : Nat) : Int) (strOf [47,97]) (strOf []) 0 0 0 u 0 none 0 0) (if u < now then 28 else 0) 0 zeroNd RPnil:=fun B => by rw [h.st]; exact vd_keep hgr [] now u (by decide) (by omega) (by omega)
 by_cases hlt : u < now
 ·have e : nowMax now u = now:=if_pos hlt
  simp only [hlt,if_true] at hdo ⊢
  rw [e]
  refine (k_no (w:=wr) 13 (by omega) [47,97] [] 0 0 0 u 0 none 0 0 (aSt [] now) 0 zeroNd h.mem (c:=1) hok (by omega) h8 28 (by decide) hdo).mono ?_
  rintro e w' ⟨rfl,hm,hF⟩
  exact ⟨rfl,⟨V,{ h with mem:=hm,wl:=Nat.le_succ_of_le h.wl,wb:=by have:=h.wb; omega,bl:=h.bl.trans hF.1 }⟩,hF⟩
 ·have e : nowMax now u = u:=if_neg hlt
  simp only [hlt,if_false] at hdo ⊢
  rw [e]
  have hwl:=h.wl
  have hwb:=h.wb
  have hs2:=h.s2
  have hnx:=h.nx
  have hE : ([13,0,2,47,97] ++ be u 8 : List UInt8).length = 13:=by rw [List.length_append,be_length]; rfl
  refine (k_turn (w:=wr) 13 (by omega) [47,97] [] 0 0 0 u 0 none 0 0 (aSt [] u) 0 zeroNd h.mem h.dk (c:=1) hok (by omega) h8 [] ([13,0,2,47,97] ++ be u 8) (Bs.nil _) rfl (by simp [safeN]) (enc_keep u) (by rw [hE]; omega) (by omega) (by rw [hE]; omega) (by omega) (by omega) hdo).mono ?_
  rintro e w' ⟨rfl,⟨V',hm,hd,hσ,h2,h3,h4,h6,h7⟩,hF⟩
  exact ⟨rfl,⟨V',⟨hm,hd,hσ,by omega,by omega,by have:=h.s1; omega,by omega,by omega,by omega,by rw [h6,hE]; omega,by have:=h.gn; omega,h.bl.trans hF.1⟩⟩,hF⟩
theorem sync_step (hg : Glob w) (h : KL w wr d v i now 2 S V P0 P1 sg) (hi : i < 15) :
  Calls Tryz.prog 5 #[.pointer (some ⟨v,0,none⟩),.agg (ovCells ((17 : Nat) : Int) (strOf []) (strOf []) 0 0 0 0 0 none 0 0)] wr fun e w' => e = .returned (.agg (noC 0 0)) /\ (∃ S' V' P0' P1' sg',KL w w' d v (i + 1) now 0 S' V' P0' P1' sg' /\ newerP P0' P1' = mkP V'.σ V'.M V'.gen) /\ Fr w.heap.size wr w':=by
 have hgr:=hg.below h.bl
 have h1:=h.n1
 have hT : V.σ.T = aTr [] now true:=by rw [h.st]; rfl
 have hS0 : V.σ.S = noSn:=by rw [h.st]; rfl
 have hn0 : V.σ.now = 0:=by rw [h.st]; rfl
 have hlen:=len_a [] now 0 (by decide)
 have hs2:=h.s2
 have hnx:=h.nx
 have hwl:=h.wl
 have hgn:=h.gn
 refine (k_sync hgr h.mem h.dk (fun j => by rw [h.st]; rfl) (by rw [hT]; exact good_a [] now (by decide) (by omega)) (by rw [hT]; exact shut_a [] now) (by rw [hS0]; exact sn_a) (by rw [hn0]; exact Nat.zero_le _) (by rw [hT,hS0,hn0]; simp only [List.length_nil] at hlen; omega) (by omega) (by omega) (by omega)).mono ?_
 rintro e w' ⟨rfl,⟨S',V',P0',P1',sg',hm,hd,hσ,h2,h3,h4,h5,h6,hne⟩,hF⟩
 exact ⟨rfl,⟨S',V',P0',P1',sg',⟨hm,hd,by rw [hσ,h.st],h.n5,h.n1,by have:=h.s1; omega,by omega,by omega,by rw [h2]; exact Nat.le_refl _,by rw [h2]; exact Nat.zero_le _,by omega,h.bl.trans hF.1⟩,hne⟩,hF⟩
theorem crash_step (h : KL w wr d v i now q S V P0 P1 sg) (torn cut : Int) :
  Calls Tryz.prog 6 #[.pointer (some ⟨d,0,none⟩),.slice none 0 0,.int .i64 torn,.int .i64 cut] wr fun e w' => e = .returned (.tuple #[]) /\ KL w w' d v i now q S V P0 P1 sg:=by
 obtain ⟨B,sb,mb,st,l,lh,wv,iv,hv,h1,h2,h3⟩:=h.mem
 refine (crash_none h1.dk torn cut).mono ?_
 rintro e w' ⟨rfl,hD,hc⟩
 exact ⟨rfl,{ h with mem:=⟨B,sb,mb,st,l,lh,wv,iv,hv,h1.disked (hc.mono (fun _ _ e => .inr (.inr e))) hD,h2,h3⟩,bl:=h.bl.trans (hc.below h.bl.size (fun k _ e => by rw [e]; exact h2.2.2.2)) }⟩
theorem open_step (h : KL w wr d v i now q S V P0 P1 sg) (hi : i <= 15) (hne : newerP P0 P1 = mkP V.σ V.M V.gen) :
  Calls Tryz.prog 7 #[.pointer (some ⟨d,0,none⟩)] wr fun e w' => (∃ v' V',e = .returned (.tuple #[.pointer (some ⟨v',0,none⟩),.int .i64 0]) /\ KL w w' d v' i now 1 S V' P0 P1 sg) /\ Below wr.heap.size wr w':=by
 obtain ⟨B,sb,mb,st,l,lh,wv,iv,hv,h1,h2,h3⟩:=h.mem
 have hs2:=h.s2
 have hnx:=h.nx
 have hone:=h.dk.one
 refine (k_open (B0:=w.heap.size) h1.dk ⟨h.bl.size,h2.2.1,h2.2.2.1,h2.2.2.2⟩ h.dk.dk _ hne V.M.sealed rfl (by omega) h.dk.z (by show V.M.next - 1 <= _; omega)).mono ?_
 rintro e w' ⟨⟨v',V',rfl,hm,hd,hσ,e1,e2,e3,e4,e5⟩,hb⟩
 have hs1:=h.s1
 rw [if_neg (by omega)] at e2
 have e2' : V'.M.next = V.M.next - 1 + 1:=e2
 have e5' : V'.gen = V.gen:=e5
 have hst : V'.σ = aSt [] now:=by
  rw [hσ]
  show (⟨V.σ.T,V.σ.S,V.σ.now,fun _ => none⟩ : StM) = _
  rw [h.st]
  rfl
 exact ⟨⟨v',V',rfl,⟨hm,hd,hst,h.n5,h.n1,by omega,by omega,by omega,by omega,by omega,by have:=h.gn; omega,h.bl.trans (hb.mono h.bl.size)⟩⟩,hb⟩
theorem stat_step (hg : Glob w) (h : KL w wr d v i now q S V P0 P1 sg) :
  Calls Tryz.prog 5 #[.pointer (some ⟨v,0,none⟩),.agg (ovCells ((12 : Nat) : Int) (strOf [47,97]) (strOf []) 0 0 0 0 0 none 0 0)] wr fun e w' => e = .returned (.agg (rpC 0 0 (.slice none 0 0) (.slice none 0 0) (fileN 0 now true))) /\ KL w w' d v i now q S V P0 P1 sg /\ Fr w.heap.size wr w':=by
 have hgr:=hg.below h.bl
 have h1:=h.n1
 refine (k_look (w:=wr) 12 (by omega) [47,97] [] 0 0 0 0 0 none 0 0 0 (fileN 0 now true) h.mem (c:=1) (by rw [h.st]; exact tr_a [] now true (by decide) (by omega)) (by omega) (by rw [h.st]; exact Nat.zero_le _) rfl (by simp [safeN]) (fun B => by rw [h.st]; exact vd_stat hgr [] now (by decide) (by omega))).mono ?_
 rintro e w' ⟨rfl,hm,hF⟩
 exact ⟨rfl,{ h with mem:=hm,bl:=h.bl.trans hF.1 },hF⟩
theorem unl_step (hg : Glob w) (h : KL w wr d v i now q S V P0 P1 sg) :
  Calls Tryz.prog 5 #[.pointer (some ⟨v,0,none⟩),.agg (ovCells ((8 : Nat) : Int) (strOf [47,97]) (strOf []) 0 0 0 0 0 none 0 0)] wr fun e w' => e = .returned (.agg (noC 28 0)) /\ Fr w.heap.size wr w':=by
 have hgr:=hg.below h.bl
 have h1:=h.n1
 have h5:=h.n5
 refine (k_no (w:=wr) 8 (by omega) [47,97] [] 0 0 0 0 0 none 0 0 (aSt [] now) 0 zeroNd h.mem (c:=1) (by rw [h.st]; exact tr_a [] now true (by decide) (by omega)) (by omega) (by rw [h.st]; exact Nat.zero_le _) 28 (by decide) (fun B => by rw [h.st]; exact vd_unlink hgr [] now (by decide) (by omega) (by omega))).mono ?_
 rintro e w' ⟨rfl,hm,hF⟩
 exact ⟨rfl,hF⟩
end
end Go.Proofs.YtabdcphioccgnaaGreatDoor
