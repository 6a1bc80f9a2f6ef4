/- DiskLaw; Format; MRead. -/
import Derived.Test.YtabdcphioccgnaaGreatDoorK37
set_option maxRecDepth 100000
set_option maxHeartbeats 8000000
namespace Go.Proofs.YtabdcphioccgnaaGreatDoor
section
open Go.RowKit
abbrev nM : Nat -> Option (List UInt8):=fun _ => none
theorem catS_congr {S S' : List UInt8} {M M' : Nat -> Option (List UInt8)} {a k : Nat} (h : ∀ j,j < k -> sect S M (a + j) = sect S' M' (a + j)) : catS S M a k = catS S' M' a k:=by
 unfold catS
 congr 1
 exact List.map_congr_left fun j hj => h j (List.mem_range.1 hj)
theorem layM_hit (M : Nat -> Option (List UInt8)) (first : Nat) (xs : List UInt8) (m i : Nat) (h : first <= i /\ i < first + m) : layM M first xs m i = some (chk xs (i - first)):=if_pos h
theorem layM_miss (M : Nat -> Option (List UInt8)) (first : Nat) (xs : List UInt8) (m i : Nat) (h : ¬ (first <= i /\ i < first + m)) : layM M first xs m i = M i:=if_neg h
theorem sect_hit (S : List UInt8) (M : Nat -> Option (List UInt8)) (first : Nat) (xs : List UInt8) (m i : Nat) (h : first <= i /\ i < first + m) : sect S (layM M first xs m) i = chk xs (i - first):=by
 unfold sect; rw [layM_hit _ _ _ _ _ h]; rfl
theorem sect_miss (S : List UInt8) (M : Nat -> Option (List UInt8)) (first : Nat) (xs : List UInt8) (m i : Nat) (h : ¬ (first <= i /\ i < first + m)) : sect S (layM M first xs m) i = sect S M i:=by
 unfold sect; rw [layM_miss _ _ _ _ _ h]
theorem catS_lay (S : List UInt8) (M : Nat -> Option (List UInt8)) (first : Nat) (xs : List UInt8) (m : Nat) (h : xs.length = 128 * m) : catS S (layM M first xs m) first m = xs:=by
 have e : catS S (layM M first xs m) first m = ((List.range m).map (chk xs)).flatten:=by
  unfold catS
  congr 1
  refine List.map_congr_left fun j hj => ?_
  have:=List.mem_range.1 hj
  rw [sect_hit _ _ _ _ _ _ (by omega)]
  congr 1
  omega
 rw [e,chks_upto,List.take_of_length_le (by omega)]
theorem catS_far (S : List UInt8) (M : Nat -> Option (List UInt8)) (first : Nat) (xs : List UInt8) (m a k : Nat) (h : a + k <= first ∨ first + m <= a) : catS S (layM M first xs m) a k = catS S M a k :=
 catS_congr fun j hj => sect_miss _ _ _ _ _ _ (by omega)
theorem catS_flush {S S' : List UInt8} {M : Nat -> Option (List UInt8)} {n a k : Nat} (h : ∀ i,i < n -> secOf S' i = sect S M i) (hk : a + k <= n) : catS S' nM a k = catS S M a k :=
 catS_congr fun j hj => by rw [sect_none S' nM (a + j) rfl]; exact h _ (by omega)
theorem zeros_flat (k : Nat) : ((List.range k).map fun _ => List.replicate 128 (0 : UInt8)).flatten = List.replicate (128 * k) 0:=by
 induction k with
 | zero => rfl
 | succ k ih =>
  rw [List.range_succ,List.map_append,List.flatten_append,ih]
  simp only [List.map_cons,List.map_nil,List.flatten_cons,List.flatten_nil,List.append_nil,List.replicate_append_replicate]
  congr 1
theorem catS_zeros (S : List UInt8) (M : Nat -> Option (List UInt8)) (a k : Nat) (h : ∀ j,j < k -> sect S M (a + j) = List.replicate 128 0) : catS S M a k = List.replicate (128 * k) 0:=by
 rw [<- zeros_flat]
 unfold catS
 congr 1
 exact List.map_congr_left fun j hj => h j (List.mem_range.1 hj)
theorem chk_zeros (m k : Nat) (h : k < m) : chk (List.replicate (128 * m) (0 : UInt8)) k = List.replicate 128 0:=by
 unfold chk
 rw [List.drop_replicate,List.take_replicate]
 congr 1
 omega
structure DOk (S : List UInt8) (n pn g : Nat) (id P0 P1 : List UInt8) (sg : Nat -> List UInt8) : Prop where
 super : secOf S 0 = supBytes n id
 pt0 : catS S nM 1 pn = P0
 pt1 : catS S nM (1 + pn) pn = P1
 seg : ∀ i,i < g -> catS S nM (1 + 2 * pn + i * 8) 8 = sg i
def ptSet (P : List UInt8) (b : List UInt8) (k gen : Nat) : List UInt8:=if gen % 2 = k then b else P
theorem DOk.save {S S' : List UInt8} {n pn g gen : Nat} {id P0 P1 b : List UInt8} {sg : Nat -> List UInt8} (h : DOk S n pn g id P0 P1 sg) (hp : 0 < pn) (hn : 1 + 2 * pn + g * 8 <= n) (hb : b.length = 128 * pn) (hS : ∀ i,i < n -> secOf S' i = sect S (layM nM (ptFirst pn gen) b pn) i) :
  DOk S' n pn g id (ptSet P0 b 0 gen) (ptSet P1 b 1 gen) sg:=by
 have hk : gen % 2 = 0 ∨ gen % 2 = 1:=by omega
 refine ⟨?_,?_,?_,fun i hi => ?_⟩
 ·rw [hS 0 (by omega),sect_miss _ _ _ _ _ _ (by unfold ptFirst; omega),sect_none S nM 0 rfl]
  exact h.super
 ·rw [catS_flush hS (by omega)]
  unfold ptSet ptFirst
  rcases hk with hk | hk
  ·rw [if_pos hk,hk,Nat.zero_mul]
   exact catS_lay _ _ _ _ _ hb
  ·rw [if_neg (by omega),hk,Nat.one_mul,catS_far _ _ _ _ _ _ _ (.inl (by omega))]
   exact h.pt0
 ·rw [catS_flush hS (by omega)]
  unfold ptSet ptFirst
  rcases hk with hk | hk
  ·rw [if_neg (by omega),hk,Nat.zero_mul,catS_far _ _ _ _ _ _ _ (.inr (by omega))]
   exact h.pt1
  ·rw [if_pos hk,hk,Nat.one_mul]
   exact catS_lay _ _ _ _ _ hb
 ·rw [catS_flush hS (by omega),catS_far _ _ _ _ _ _ _ (.inr (by unfold ptFirst; rcases hk with hk | hk <;> rw [hk] <;> omega))]
  exact h.seg i hi
theorem DOk.seal {S S' : List UInt8} {n pn g k : Nat} {id P0 P1 b : List UInt8} {sg : Nat -> List UInt8} (h : DOk S n pn g id P0 P1 sg) (hn : 1 + 2 * pn + g * 8 <= n) (hk : k < g) (hb : b.length = 1024) (hS : ∀ i,i < n -> secOf S' i = sect S (layM nM (1 + 2 * pn + k * 8) b 8) i) :
  DOk S' n pn g id P0 P1 (fun i => if i = k then b else sg i):=by
 refine ⟨?_,?_,?_,fun i hi => ?_⟩
 ·rw [hS 0 (by omega),sect_miss _ _ _ _ _ _ (by omega),sect_none S nM 0 rfl]
  exact h.super
 ·rw [catS_flush hS (by omega),catS_far _ _ _ _ _ _ _ (.inl (by omega))]
  exact h.pt0
 ·rw [catS_flush hS (by omega),catS_far _ _ _ _ _ _ _ (.inl (by omega))]
  exact h.pt1
 ·rw [catS_flush hS (by omega)]
  by_cases e : i = k
  ·subst e
   rw [if_pos rfl]
   exact catS_lay _ _ _ _ _ (by omega)
  ·rw [if_neg e,catS_far _ _ _ _ _ _ _ (by omega)]
   exact h.seg i hi
end
section
open Go.RowKit Go.ChangeMaps Go.MapKept
def genSt : List UInt8:=stBytes newSt.T newSt.S newSt.now
theorem genSt_length : genSt.length = 51:=by kernel_rfl
def genMk (id : List UInt8) (gen : Nat) : Mk:=⟨gen,0,0,sha (3 :: id),genSt⟩
def genB (pn : Nat) (id : List UInt8) (gen : Nat) : List UInt8:=ptBytes pn (genMk id gen)
theorem newT_ok : TrOk 0 newSt.T:=by
 have h1 : ∀ i (x : It),getK i newSt.T = some x -> i = 0 /\ x = freshIt 0 2:=fun i x hx => by
  unfold getK newSt at hx
  by_cases h0 : 0 = i
  ·simp [h0] at hx; exact ⟨h0.symm,by rw [<- hx,<- h0]⟩
  ·simp [h0] at hx
 refine ⟨⟨freshIt 0 2,rfl,rfl⟩,fun i x hx => ?_,fun i x s k hx hs => ?_,by decide⟩
 ·obtain ⟨rfl,rfl⟩:=h1 i x hx
  exact ⟨Nat.le_refl _,rfl,by decide,rfl,Nat.le_refl _⟩
 ·obtain ⟨rfl,rfl⟩:=h1 i x hx
  simp [freshIt,getK] at hs
theorem newT_shut : Shut0 newSt.T:=fun i x hx hk => by
 have : x = freshIt 0 2:=by
  unfold getK newSt at hx
  by_cases h0 : 0 = i
  ·simp [h0] at hx; rw [<- hx,<- h0]
  ·simp [h0] at hx
 rw [this] at hk
 exact absurd rfl hk
theorem newSave (w : World) (L : Nat) (hL : L <= w.heap.size) {s : Nat} (h : StAt w L L w.heap.size s newSt) :
  Calls Tryz.prog 36 #[.pointer (some ⟨s,0,none⟩)] w fun e w' => ∃ v,e = .returned v /\ Own w' w.heap.size v genSt /\ Below w.heap.size w w':=by
 obtain ⟨t,sn,fp,h⟩:=h
 exact stsave_any h (Nat.le_refl _) (Commits.shut h.tree newT_ok (by omega) hL newT_shut) newT_ok (by omega) rfl (by decide) (by decide)
def M2 (M : Nat -> Option (List UInt8)) (n : Nat) (id : List UInt8) : Nat -> Option (List UInt8):=layM (layM M 0 (supBytes n id) 1) 1 (List.replicate (128 * (n - 1)) 0) (n - 1)
def fmtM (M : Nat -> Option (List UInt8)) (n pn : Nat) (id : List UInt8) : Nat -> Nat -> Option (List UInt8)
 | 0 => M2 M n id
 | k + 1 => layM (fmtM M n pn id k) (ptFirst pn (k + 1)) (genB pn id (k + 1)) pn
theorem fmt_ok {S S' : List UInt8} {M : Nat -> Option (List UInt8)} {n pn g : Nat} {id : List UInt8} (hi : id.length = 16) (hp : 16 <= pn) (hn : 1 + 2 * pn + g * 8 <= n) (hS : ∀ i,i < n -> secOf S' i = sect S (fmtM M n pn id 2) i) :
  DOk S' n pn g id (genB pn id 2) (genB pn id 1) (fun _ => List.replicate 1024 0):=by
 have hl : ∀ k,(genB pn id k).length = 128 * pn:=fun k => ptB_length pn (genMk id k) (sha_length _) (by show genSt.length + 94 <= _; rw [genSt_length]; omega)
 have f2 : ptFirst pn 2 = 1:=by unfold ptFirst; omega
 have f1 : ptFirst pn 1 = 1 + pn:=by unfold ptFirst; omega
 have e2 : fmtM M n pn id 2 = layM (layM (M2 M n id) (1 + pn) (genB pn id 1) pn) 1 (genB pn id 2) pn:=by
  show layM (layM (M2 M n id) (ptFirst pn 1) (genB pn id 1) pn) (ptFirst pn 2) (genB pn id 2) pn = _
  rw [f1,f2]
 rw [e2] at hS
 refine ⟨?_,?_,?_,fun i hig => ?_⟩
 ·rw [hS 0 (by omega),sect_miss _ _ _ _ _ _ (by omega),sect_miss _ _ _ _ _ _ (by omega)]
  unfold M2
  rw [sect_miss _ _ _ _ _ _ (by omega),sect_hit _ _ _ _ _ _ (by omega)]
  unfold chk
  rw [Nat.sub_self,Nat.mul_zero,List.drop_zero,List.take_of_length_le (by rw [supBytes_length n id hi]; exact Nat.le_refl _)]
 ·rw [catS_flush hS (by omega)]
  exact catS_lay _ _ _ _ _ (hl 2)
 ·rw [catS_flush hS (by omega),catS_far _ _ _ _ _ _ _ (.inr (by omega))]
  exact catS_lay _ _ _ _ _ (hl 1)
 ·rw [catS_flush hS (by omega),catS_far _ _ _ _ _ _ _ (.inr (by omega)),catS_far _ _ _ _ _ _ _ (.inr (by omega))]
  refine catS_zeros _ _ _ 8 fun j hj => ?_
  unfold M2
  rw [sect_hit _ _ _ _ _ _ (by omega)]
  exact chk_zeros _ _ (by omega)
theorem format_ok {w : World} {d sb mb n : Nat} {S : List UInt8} {M : Nat -> Option (List UInt8)} (hD : Dk w d sb mb n S M) (h1 : 64 <= n) (ia : Option Addr) (ic : Nat) (id : List UInt8) (hI : Bs w ia 16 ic id) (hap : ∀ ad,ia = some ad -> ad.block ≠ d /\ ad.block ≠ sb /\ ad.block ≠ mb) :
  Calls Tryz.prog 10 #[.pointer (some ⟨d,0,none⟩),.slice ia 16 ic] w fun e w' => e = .returned (.int .i64 0) /\ (∃ S',Dk w' d sb mb n S' nM /\ DOk S' n (n / 4) ((n - 1 - 2 * (n / 4)) / 8) id (genB (n / 4) id 2) (genB (n / 4) id 1) (fun _ => List.replicate 1024 0)) /\ Chg (fun k => k = d ∨ k = sb ∨ k = mb) w w':=by
 have hn4 : n <= 4096:=hD.2.2.1
 have hil:=hI.1
 have hlt:=hD.lt
 have hpl : isPlan (n : Int) ((n / 4 : Nat) : Int) (seg (n : Int)):=⟨by omega,by omega,by omega,rfl⟩
 have hof : ofV (n : Int) = .tuple #[.agg #[.int .i64 (n : Int),.int .i64 ((n / 4 : Nat) : Int),.int .i64 (seg (n : Int))],.int .i64 0]:=by
  unfold ofV
  rw [if_neg (by omega)]
  congr 5
 obtain ⟨pn,hpn⟩:=qnm (n / 4)
 rw [<- hpn] at hpl hof ⊢
 obtain ⟨g,hg⟩:=qnm (seg (n : Int))
 rw [<- hg] at hpl hof
 have HX:=qh (aI hD (aI hI (aI hap (aI hpl (aI hil (aI h1 (aI hn4 hpn)))))))
 have HSU:=qh (fun W (hb : Below w.heap.size w W) => super_ok n ia ic id W (hI.below hb) h1 hn4)
 have HSE:=qh (fun W (hb : Below w.heap.size w W) => sectors_any (hD.below hb))
 have HOF:=qh (fun W => of_any (n : Int) W)
 rw [hof] at HOF
 have e1 : IntKind.i64.wrap ((n : Int) - 1) = ((n - 1 : Nat) : Int):=by rw [IntWalk.i64_in _ (by omega)]; omega
 have e2 : IntKind.i64.wrap (128 * ((n - 1 : Nat) : Int)) = ((128 * (n - 1) : Nat) : Int):=by rw [IntWalk.i64_in _ (by omega)]; omega
 obtain ⟨n1,hn1⟩:=qnm (n - 1)
 obtain ⟨nb,hnb⟩:=qnm (128 * n1)
 rw [<- hn1,<- hnb] at e2
 rw [<- hn1] at e1
 have HN:=qh (aI hn1 hnb)
 have HMK:=qh (fun W => run_make_bytes nb (by omega) W)
 have HLT:=qh hlt
 clear hD hI hap hpl hil h1 hn4 hpn hof hg hn1 hnb hlt
 go_enter Tryz.func10,Tryz.ntmps10
 go_wp2_with fail
 refine (HSE.out w (Below.refl _ _)).mono ?_
 rintro e w' ⟨rfl,rfl⟩
 go_wp2_with fail
 refine (HSU.out w (Below.refl _ _)).mono ?_
 rintro e w1 ⟨v1,rfl,ho1,hb1⟩
 obtain ⟨a1,c1,rfl,hB1⟩:=ho1.bsn (n:=128) (supBytes_length n id HX.out.2.2.2.2.1)
 have H1:=qh (aI ho1 hb1)
 have HS1:=qh (HSE.out w1 hb1)
 clear ho1 hb1
 go_wp2_with fail
 refine HS1.out.mono ?_
 rintro e w' ⟨rfl,rfl⟩
 go_wp2_with fail
 refine (HOF.out w1).mono ?_
 rintro e w2 ⟨rfl,hb2⟩
 obtain ⟨ho1,hb1⟩:=H1.out
 obtain ⟨w3,hw3⟩:=qnm (w2.alloc (.cells #[.int .i64 (n : Int),.int .i64 (pn : Int),.int .i64 g] TPlan))
 have hb3:=qba hw3
 obtain ⟨N,hN⟩:=qnm w2.heap.size
 have hz3 : w3.heap[N]? = some (.cells #[.int .i64 (n : Int),.int .i64 (pn : Int),.int .i64 g] TPlan (0,0)):=by rw [hw3,hN]; exact heap_alloc_new w2 _
 have hb13 : Below w1.heap.size w1 w3:=hb2.trans (hb3.mono hb2.size)
 have hbw3 : Below w.heap.size w w3:=hb1.trans (hb13.mono hb1.size)
 have hNw : w.heap.size <= N:=by rw [hN]; exact Nat.le_trans hb1.size hb2.size
 have hLY:=lay_any (HX.out.1.below hbw3) 0 1 a1 c1 _ (by simpa using hB1.below hb13) (by have:=HX.out; omega) (fun ad had => by
  subst had
  have h1:=ho1.ge ad.block rfl
  have h2:=HLT.out
  (try simp only at h1)
  omega)
 simp only [Nat.mul_one] at hLY
 have HLY:=qh hLY
 have HW3:=qh (aI hw3 (aI hN (aI hz3 (aI hbw3 hNw))))
 clear ho1 hb1 hb2 hb3 hb13 hbw3 hLY hB1 hw3 hN hz3 hNw HS1
 go_upto_region 7 with fail
 rw [<- HW3.out.1,<- HW3.out.2.1]
 go_wp2_with fail
 refine HLY.out.mono ?_
 rintro e w4 ⟨rfl,hD4,hc4⟩
 have HS4:=qh (sectors_any hD4)
 have hch4 : Chg (fun k => k = d ∨ k = mb) w w4:=(Chg.of_below HW3.out.2.2.2.1 _).two hc4
 have hz4:=(hc4.block N (ltH HW3.out.2.2.1) (by have:=HW3.out.2.2.2.2; have:=HLT.out; omega)).trans HW3.out.2.2.1
 have H4:=qh (aI hD4 (aI hch4 hz4))
 have hmk:=HMK.out w4
 clear hD4 hc4 hch4 hz4 HLY
 go_wp2_with fail
 refine HS4.out.mono ?_
 rintro e w' ⟨rfl,rfl⟩
 obtain ⟨hD4,hch4,hz4⟩:=H4.out
 obtain ⟨w5,hw5⟩:=qnm (w4.alloc (.cells (madeCells #[.int .u8 0] nb) TB))
 have hb5:=qba hw5
 have hBz : Bs w5 (some ⟨w4.heap.size,0,none⟩) nb nb (List.replicate nb 0):=by
  have:=(Row.zero w4 nb (by have:=HN.out; have:=HX.out; unfold maxLen; omega)).bs
  rw [List.length_replicate] at this
  rw [hw5]
  exact this
 have hLY:=lay_any (hD4.below hb5) 1 n1 (some ⟨w4.heap.size,0,none⟩) nb (List.replicate nb 0) (by rw [<- HN.out.2]; exact hBz) (by have:=HN.out; have:=HX.out; omega) (fun ad had => by
  injection had with had
  subst had
  have h2:=HLT.out
  have h3:=hch4.size
  simp only
  omega)
 rw [<- HN.out.2] at hLY
 have HLY:=qh hLY
 have hz5:=(hb5.block N (ltH hz4)).trans hz4
 have H5:=qh (aI hw5 (aI (hch4.step hb5) hz5))
 clear hD4 hch4 hz4 hw5 hb5 hBz hLY hz5 HS4
 go_wp2_with (rw [<- H5.out.1])
 refine HLY.out.mono ?_
 rintro e w6 ⟨rfl,hD6,hc6⟩
 have hM2 : layM (layM M 0 (supBytes n id) 1) 1 (List.replicate nb 0) n1 = fmtM M n pn id 0:=by
  show _ = M2 M n id
  unfold M2
  rw [HN.out.2,HN.out.1]
 rw [hM2] at hD6
 have H6:=qh (show Dk w6 d sb mb n S (fmtM M n pn id 0) /\ Chg (fun k => k = d ∨ k = mb) w w6 /\ w6.heap[N]? = some (.cells #[.int .i64 (n : Int),.int .i64 (pn : Int),.int .i64 g] TPlan (0,0)) from
  ⟨hD6,H5.out.2.1.two hc6,(hc6.block N (ltH H5.out.2.2) (by have:=HW3.out.2.2.2.2; have:=HLT.out; omega)).trans H5.out.2.2⟩)
 clear hD6 hc6 hM2 HLY hmk
 go_wp2_with fail
 go_loopw [9,38] (fun _ i wr => ∃ k : Nat,k <= 2 /\ i = .int .u64 (k : Int) /\ Dk wr d sb mb n S (fmtM M n pn id k) /\ Chg (fun k => k = d ∨ k = mb) w wr /\ wr.heap[N]? = some (.cells #[.int .i64 (n : Int),.int .i64 (pn : Int),.int .i64 g] TPlan (0,0))) (fun _ i _ => 2 - (intOf i).toNat)
 case atStart => exact ⟨0,by omega,rfl,H6.out⟩
 case round =>
  obtain ⟨k,hk,rfl,hDk,hch,hz⟩:=hrel
  clear H6
  by_cases hlt : k < 2
  ·have e3 : (k : Int) < 2:=by omega
   obtain ⟨k1,hk1⟩:=qnm (k + 1)
   have e4 : IntKind.u64.wrap ((k : Int) + 1) = (k1 : Int):=by rw [IntWalk.u64_in _ (by omega)]; omega
   have e5 : (0 : Int) <= (k : Int):=by omega
   have hIr : Bs wr ia 16 ic id:=hch.bs HX.out.2.1 (fun ad had => by have:=HX.out.2.2.1 ad had; omega)
   have HGN:=qh (genesis_any ia 16 ic id wr.drew (hIr.below (Below.refl _ _).drew) (by omega))
   have HR:=qh (aI hDk (aI hch (aI hz (aI hk hk1))))
   obtain ⟨p0,p1,p2⟩:=pl_cells hz
   clear hDk hch hz hk hk1 hIr
   go_upto_region 12 with fail
   refine heldB_start (fun i => [0,1,2,3,4,5,6,7,8,9].contains i) (fun w' => w'.cell? ⟨N,0,none⟩ = some (.int .i64 (n : Int)) /\ w'.cell? ⟨N,1,none⟩ = some (.int .i64 (pn : Int)) /\ w'.cell? ⟨N,2,none⟩ = some (.int .i64 g)) (by kernel_rfl) ?_ (fun hHeld => ?_)
   ·exact ⟨p0,p1,p2⟩
   refine qtk 0 41 ?_
   simp only [qz0,qz1]
   refine qtk 1 42 ?_
   simp only [qz0,qz1]
   refine qtk 2 43 ?_
   simp only [qz0,qz1]
   refine qtk 3 44 ?_
   simp only [qz0,qz1]
   refine qtk 4 45 ?_
   simp only [qz0,qz1]
   refine qone 5 fun K hK => ?_
   go_simp
   refine HGN.out.mono ?_
   rintro e wa ⟨⟨va,rfl,hoa⟩,hba⟩
   obtain ⟨aa,ca,rfl,_⟩:=hoa.bsn (n:=32) (sha_length _)
   have HA:=qh (aI hoa (show Below wr.heap.size wr wa from (Below.refl _ _).drew.trans hba))
   have HNW:=qh (stnew_any wa wa.heap.size (Nat.le_refl _))
   have hHeld:=pl_cells ((HA.out.2.block N (ltH HR.out.2.2.1)).trans HR.out.2.2.1)
   clear hoa hba
   go_wp2_with fail
   refine hK.out _ _ (fun _ => hHeld) ?_
   clear hK K
   refine qone 6 fun K hK => ?_
   go_simp
   refine HNW.out.mono ?_
   rintro e wb ⟨s1,rfl,hs1,hbb⟩
   have HSV:=qh (newSave wb wa.heap.size hbb.size (hs1))
   have HB:=qh (show Below wr.heap.size wr wb /\ Below wa.heap.size wa wb from ⟨HA.out.2.trans (hbb.mono HA.out.2.size),hbb⟩)
   have hHeld:=pl_cells ((HB.out.1.block N (ltH HR.out.2.2.1)).trans HR.out.2.2.1)
   clear hs1 hbb
   go_wp2_with fail
   refine hK.out _ _ (fun _ => hHeld) ?_
   clear hK K
   refine qone 7 fun K hK => ?_
   go_simp
   refine HSV.out.mono ?_
   rintro e wc ⟨vc,rfl,hoc,hbc⟩
   obtain ⟨ac,cc,rfl,hBc⟩:=hoc.bsn (n:=51) genSt_length
   have hbrc : Below wr.heap.size wr wc:=HB.out.1.trans (hbc.mono HB.out.1.size)
   have hbac : Below wa.heap.size wa wc:=HB.out.2.trans (hbc.mono HB.out.2.size)
   obtain ⟨aa',ca',hva,hBa⟩:=(HA.out.1.below hbac).bsn (n:=32) (sha_length _)
   injection hva with hva1 hva2 hva3
   subst hva1 hva3
   clear hva2
   have hMS:=msave_ok (HR.out.1.below hbrc) (n : Int) g pn HX.out.2.2.2.1 (genMk id k1) aa ac ca 51 cc hBa hBc ⟨by show 1 <= k1; have:=HR.out; omega,by show k1 <= 1099511627776; have:=HR.out; omega,by show 0 <= 1099511627776; omega,by show (0 : Int) <= 0; omega,by show (0 : Int) <= g; have:=HX.out.2.2.2.1.bd; omega,sha_length _⟩ (by have:=HX.out; omega) (by have:=HX.out; omega)
   have HMS:=qh hMS
   have HC:=qh hbrc
   have hHeld:=pl_cells ((hbrc.block N (ltH HR.out.2.2.1)).trans HR.out.2.2.1)
   clear hoc hbc hBc hbrc hbac hBa hMS
   go_wp2_with fail
   refine hK.out _ _ (fun _ => hHeld) ?_
   clear hK K
   refine qtk 8 49 ?_
   simp only [qz0,qz1]
   refine qone 9 fun K hK => ?_
   go_simp
   refine HMS.out.mono ?_
   rintro e wd ⟨rfl,hDd,hcd⟩
   have H9:=qh (show Dk wd d sb mb n S (fmtM M n pn id k1) /\ Chg (fun k => k = d ∨ k = mb) w wd /\ wd.heap[N]? = some (.cells #[.int .i64 (n : Int),.int .i64 (pn : Int),.int .i64 g] TPlan (0,0)) from by
     obtain ⟨_,hch,hz,_,hk1⟩:=HR.out
     refine ⟨?_,(hch.step HC.out).two hcd,(hcd.block N (ltH ((HC.out.block N (ltH hz)).trans hz)) (by have:=HW3.out.2.2.2.2; have:=HLT.out; omega)).trans ((HC.out.block N (ltH hz)).trans hz)⟩
     rw [hk1] at hDd ⊢
     exact hDd)
   have hHeld:=pl_cells H9.out.2.2
   clear hDd hcd
   go_wp2_with fail
   refine hK.out _ _ (fun _ => hHeld) ?_
   clear hK K
   refine qdon ?_
   clear hHeld p0 p1 p2
   go_wp2_with fail
   go_roundw
   case rel =>
    obtain ⟨_,_,_,hk,hk1⟩:=HR.out
    exact ⟨k1,by omega,rfl,H9.out⟩
   case measure =>
    obtain ⟨_,_,_,hk,hk1⟩:=HR.out
    show 2 - (k1 : Int).toNat < 2 - (k : Int).toNat
    omega
  ·obtain rfl : k = 2:=by omega
   clear hlt
   have HFL:=qh (flush_any hDk)
   have HF:=qh (aI hch hDk)
   clear hDk hch hz
   go_wp2_with fail
   refine HFL.out.mono ?_
   rintro e w7 ⟨rfl,⟨S',hD7,hS7⟩,hc7⟩
   have HE:=qh (show (∃ S',Dk w7 d sb mb n S' nM /\ DOk S' n pn ((n - 1 - 2 * pn) / 8) id (genB pn id 2) (genB pn id 1) (fun _ => List.replicate 1024 0)) /\ Chg (fun k => k = d ∨ k = sb ∨ k = mb) w w7 from
    ⟨⟨S',hD7,fmt_ok HX.out.2.2.2.2.1 (by have:=HX.out; omega) (by have:=HX.out; omega) hS7⟩,(HF.out.1.mono (fun _ _ e => by omega)).trans hc7 (fun _ _ e => by omega)⟩)
   clear hD7 hS7 hc7
   go_wp2_with fail
   go_ret
   rw [HX.out.2.2.2.2.2.2.2] at HE
   exact ⟨rfl,by rw [HX.out.2.2.2.2.2.2.2]; exact HE.out.1,HE.out.2⟩
theorem chg3 (w : World) (b : Nat) (v0 v1 v2 : Value) : Chg (fun k => k = b) w (((w.setCell ⟨b,0,none⟩ v0).setCell ⟨b,1,none⟩ v1).setCell ⟨b,2,none⟩ v2) :=
 ((chg_set w b 0 v0).two (chg_set _ b 1 v1)).two (chg_set _ b 2 v2)
theorem chg5 (w : World) (b : Nat) (v0 v1 v2 v3 v4 : Value) : Chg (fun k => k = b) w (((((w.setCell ⟨b,0,none⟩ v0).setCell ⟨b,1,none⟩ v1).setCell ⟨b,2,none⟩ v2).setCell ⟨b,3,none⟩ v3).setCell ⟨b,4,none⟩ v4) :=
 ((((chg_set w b 0 v0).two (chg_set _ b 1 v1)).two (chg_set _ b 2 v2)).two (chg_set _ b 3 v3)).two (chg_set _ b 4 v4)
theorem msuper_ok {w : World} {d sb mb n : Nat} {S : List UInt8} (hD : Dk w d sb mb n S nM) (h1 : 64 <= n) (id : List UInt8) (hid : id.length = 16) (hs : secOf S 0 = supBytes n id) :
  Calls Tryz.prog 83 #[.pointer (some ⟨d,0,none⟩)] w fun e w' => (∃ v,e = .returned (.tuple #[.agg #[.int .i64 (n : Int),.int .i64 ((n / 4 : Nat) : Int),.int .i64 (seg (n : Int))],v,.int .i64 0]) /\ Own w' w.heap.size v id) /\ Below w.heap.size w w':=by
 have hn4 : n <= 4096:=hD.2.2.1
 have hof : ofV (n : Int) = .tuple #[.agg #[.int .i64 (n : Int),.int .i64 ((n / 4 : Nat) : Int),.int .i64 (seg (n : Int))],.int .i64 0]:=by
  unfold ofV
  rw [if_neg (by omega)]
  congr 5
 have HOF:=qh (fun W => of_any (n : Int) W)
 rw [hof] at HOF
 obtain ⟨pn,hpn⟩:=qnm (n / 4)
 obtain ⟨g,hg⟩:=qnm (seg (n : Int))
 rw [<- hpn,<- hg] at HOF ⊢
 obtain ⟨w0,hw0⟩:=qnm (w.alloc (.cells #[.int .i64 0,.int .i64 0,.int .i64 0] TPlan))
 have hb0:=qba hw0
 have hz0 : w0.heap[w.heap.size]? = some (.cells #[.int .i64 0,.int .i64 0,.int .i64 0] TPlan (0,0)):=by rw [hw0]; exact heap_alloc_new w _
 obtain ⟨N,hN⟩:=qnm w.heap.size
 rw [<- hN] at hz0
 have hRD:=dread_any (hD.below hb0) 0 (by omega)
 rw [sect_none S nM 0 rfl,hs] at hRD
 have HRD:=qh hRD
 have HSE:=qh (fun W (hb : Below w.heap.size w W) => sectors_any (hD.below hb))
 obtain ⟨q1,q2,q3⟩:=supOk_bytes n id hid h1 hn4
 have HX:=qh (aI q1 (aI q2 (aI q3 (aI hid (supBytes_length n id hid)))))
 have HW:=qh (aI hw0 (aI hb0 (aI hz0 hN)))
 clear hD h1 hs hn4 hof hpn hg hw0 hb0 hz0 hN hRD q1 q2 q3 hid
 go_enter Tryz.func83,Tryz.ntmps83
 go_upto_region 1 with fail
 rw [<- HW.out.1,<- HW.out.2.2.2]
 go_wp2_with fail
 refine HRD.out.mono ?_
 rintro e w1 ⟨v1,rfl,ho1,hb1⟩
 obtain ⟨a1,c1,rfl,hB1⟩:=ho1.bsn (n:=128) HX.out.2.2.2.2
 have HRS:=qh (rsup_any a1 128 c1 _ w1 hB1 (by unfold big; decide))
 have H1:=qh (show Below w0.heap.size w0 w1 from hb1)
 clear ho1 hB1 hb1 HRD
 go_wp2_with fail
 refine HRS.out.mono ?_
 rintro e w2 ⟨hp,hb2⟩
 have hp2 : ∃ v,e = .returned (.tuple #[.int .i64 (n : Int),v,.int .i64 0]) /\ Own w2 w1.heap.size v id:=by
  rcases hp with ⟨_,v,he,ho⟩ | ⟨hn,_⟩
  ·rw [HX.out.2.1] at he
   rw [HX.out.2.2.1] at ho
   exact ⟨v,he,ho⟩
  ·exact absurd HX.out.1 hn
 obtain ⟨v2,rfl,ho2⟩:=hp2
 obtain ⟨a2,c2,rfl,_⟩:=ho2.bsn (n:=16) HX.out.2.2.2.1
 have H2:=qh (show Below w0.heap.size w0 w2 /\ Own w2 w.heap.size (.slice a2 16 c2) id from ⟨H1.out.trans (hb2.mono H1.out.size),ho2.base (Nat.le_trans HW.out.2.1.size H1.out.size)⟩)
 have HS2:=qh (HSE.out w2 (HW.out.2.1.trans (H2.out.1.mono HW.out.2.1.size)))
 have hnn : ((n : Int) != (n : Int)) = false:=bne_self_eq_false _
 clear hp ho2 hb2 HRS
 go_wp2_with fail
 refine HS2.out.mono ?_
 rintro e w' ⟨rfl,rfl⟩
 go_wp2_with fail
 refine (HOF.out w2).mono ?_
 rintro e w3 ⟨rfl,hb3⟩
 obtain ⟨w4,hw4⟩:=qnm (w3.alloc (.cells #[.int .i64 (n : Int),.int .i64 (pn : Int),.int .i64 g] TPlan))
 have hb4:=qba hw4
 have hb24 : Below w2.heap.size w2 w4:=hb3.trans (hb4.mono hb3.size)
 obtain ⟨N4,hN4⟩:=qnm w3.heap.size
 have hz4 : w4.heap[N4]? = some (.cells #[.int .i64 (n : Int),.int .i64 (pn : Int),.int .i64 g] TPlan (0,0)):=by rw [hw4,hN4]; exact heap_alloc_new w3 _
 have hb04 : Below w0.heap.size w0 w4:=H2.out.1.trans (hb24.mono H2.out.1.size)
 have hzN:=(hb04.block N (ltH HW.out.2.2.1)).trans HW.out.2.2.1
 obtain ⟨p0,p1,p2⟩:=pl_cells hz4
 obtain ⟨z0,z1,z2⟩:=pl_cells hzN
 have f0:=frz_of hzN 0
 have f1:=frz_of hzN 1
 have f2:=frz_of hzN 2
 have hNl:=ltH hzN
 have HF:=qh (show Own w4 w.heap.size (.slice a2 16 c2) id /\ Below w.heap.size w w4 /\ w4.heap[N]? = some (.cells #[.int .i64 0,.int .i64 0,.int .i64 0] TPlan (0,0)) from ⟨H2.out.2.below hb24,HW.out.2.1.trans (hb04.mono HW.out.2.1.size),hzN⟩)
 have HW4:=qh (aI hw4 hN4)
 clear hb3 hb4 hb24 hz4 hb04 hzN hw4 hN4 HS2
 go_upto_region 6 with fail
 rw [<- HW4.out.1,<- HW4.out.2]
 go_wp2_with fail
 refine bodyPost_ret (v:=.tuple #[.agg #[.int .i64 (n : Int),.int .i64 (pn : Int),.int .i64 g],.slice a2 16 c2,.int .i64 0]) (by simp [results,Tryz.results83,go_sem,z0,z1,z2]) rfl ?_
 obtain ⟨h1,h2,h3⟩:=HF.out
 have hc:=chg3 w4 N (.int .i64 (n : Int)) (.int .i64 (pn : Int)) (.int .i64 g)
 have hNw:=HW.out.2.2.2
 exact ⟨⟨_,rfl,own_set hc h3 (by decide) h1⟩,h2.trans (hc.below h2.size (fun k _ e => by omega))⟩
theorem behind_none {w : World} {d sb mb n : Nat} {S : List UInt8} (hD : Dk w d sb mb n S nM) (s p : Int) (g fr : Nat) (hp : isPlan s p g) (hz : ∀ i,fr <= i -> i < g -> ∃ first : Nat,(first : Int) = 1 + 2 * p + i * 8 /\ first + 8 <= n /\ catS S nM first 8 = List.replicate 1024 0) :
  Calls Tryz.prog 86 #[.pointer (some ⟨d,0,none⟩),.agg #[.int .i64 s,.int .i64 p,.int .i64 (g : Int)],.int .i64 (fr : Int)] w fun e w' => e = .returned (.bool false) /\ Below w.heap.size w w':=by
 obtain ⟨w0,hw0⟩:=qnm (w.alloc (.cells #[.int .i64 s,.int .i64 p,.int .i64 (g : Int)] TPlan))
 have hb0:=qba hw0
 have hz0 : w0.heap[w.heap.size]? = some (.cells #[.int .i64 s,.int .i64 p,.int .i64 (g : Int)] TPlan (0,0)):=by rw [hw0]; exact heap_alloc_new w _
 obtain ⟨N,hN⟩:=qnm w.heap.size
 rw [<- hN] at hz0
 have hbd:=hp.bd
 have HX:=qh (aI hD (aI hp hz))
 have HW:=qh (aI hw0 (aI hb0 (aI hz0 hN)))
 clear hD hp hz hw0 hb0 hz0 hN
 go_enter Tryz.func86,Tryz.ntmps86
 go_upto_region 1 with fail
 rw [<- HW.out.1,<- HW.out.2.2.2]
 go_wp2_with fail
 go_loopw [7,9,10] (fun i _ _ wr => ∃ j : Nat,fr <= j /\ (j = fr ∨ j <= g) /\ i = .int .i64 (j : Int) /\ Below w0.heap.size w0 wr) (fun i _ _ _ => g - (intOf i).toNat)
 case atStart => exact ⟨fr,Nat.le_refl _,.inl rfl,rfl,Below.refl _ _⟩
 case round =>
  obtain ⟨j,hj1,hj2,rfl,hbr⟩:=hrel
  have hzr:=(hbr.block N (ltH HW.out.2.2.1)).trans HW.out.2.2.1
  obtain ⟨c0,c1,c2⟩:=pl_cells hzr
  by_cases hlt : j < g
  ·obtain ⟨first,hf1,hf2,hcat⟩:=HX.out.2.2 j hj1 hlt
   have e1 : (j : Int) < (g : Int):=by omega
   have hPL:=place_any (HX.out.1.below (HW.out.2.1.trans (hbr.mono HW.out.2.1.size))) s p g HX.out.2.1 j first e1 hf1 hf2
   rw [hcat] at hPL
   have HPL:=qh hPL
   obtain ⟨j2,hjj⟩:=qnm (j + 1)
   have e3 : IntKind.i64.wrap ((j : Int) + 1) = (j2 : Int):=by rw [IntWalk.i64_in _ (by omega)]; omega
   have HJ:=qh (aI hjj (aI hj1 hlt))
   have HB:=qh hbr
   clear hf1 hf2 hcat hPL hjj hj1 hj2 hlt hbr hzr
   go_wp2_with fail
   refine HPL.out.mono ?_
   rintro e w1 ⟨v1,rfl,ho1,hb1⟩
   obtain ⟨a1,k1,rfl,hB1⟩:=ho1.bsn (n:=1024) (by simp)
   have HRD:=qh (segread_none a1 k1 w1 hB1)
   have HB1:=qh (show Below w0.heap.size w0 w1 from HB.out.trans (hb1.mono HB.out.size))
   clear ho1 hB1 hb1 HPL
   go_wp2_with fail
   refine HRD.out.mono ?_
   rintro e w2 ⟨rfl,hb2⟩
   unfold noHd
   have HB2:=qh (show Below w0.heap.size w0 (w2.alloc (.cells #[.int .i64 0,.int .u64 0,.int .i64 0,.int .i64 0,.slice none 0 0,.slice none 0 0] THd)) from
    (HB1.out.trans (hb2.mono HB1.out.size)).alloc (Nat.le_trans HB1.out.size hb2.size) _)
   clear hb2 HRD
   go_wp2_with fail
   go_roundw
   case rel =>
    obtain ⟨hjj,hj1,hlt⟩:=HJ.out
    exact ⟨j2,by omega,.inr (by omega),rfl,HB2.out⟩
   case measure =>
    obtain ⟨hjj,hj1,hlt⟩:=HJ.out
    show g - (j2 : Int).toNat < g - (j : Int).toNat
    omega
  ·have e1 : ¬ (j : Int) < (g : Int):=by omega
   have HF:=qh (show Below w.heap.size w wr from HW.out.2.1.trans (hbr.mono HW.out.2.1.size))
   clear hbr hzr hj1 hj2 hlt
   go_wp2_with fail
   go_ret
   exact ⟨rfl,HF.out⟩
end
end Go.Proofs.YtabdcphioccgnaaGreatDoor
