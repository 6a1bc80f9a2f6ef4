/- TreeRead. -/
import Derived.Laws.Cover1
import Derived.Sort.Walk0
import Derived.Test.YtabdcphioccgnaaGreatDoorK12
import Derived.Test.YtabdcphioccgnaaGreatDoorK23
set_option maxRecDepth 100000
set_option maxHeartbeats 8000000
namespace Go.Proofs.YtabdcphioccgnaaGreatDoor
section
open Go.RowKit Go.ChangeMaps Go.MapKept
theorem ltH {w : World} {b : Nat} {o : Obj} (h : w.heap[b]? = some o) : b < w.heap.size:=(Array.getElem?_eq_some_iff.1 h).1
theorem Chg.two {S : Nat -> Prop} {a b c : World} (h : Chg S a b) (k : Chg S b c) : Chg S a c:=h.trans k (fun _ _ h => h)
structure ItOk (x : It) : Prop where
 ok : x.n.Ok
 til : x.n.til < 18446744073709551616
 sz : (x.b.length : Int) = x.n.size
 bl : x.b.length <= 4096
 nl : x.names.length <= 60000
 good : ∀ p ∈ x.names,goodN p.1 = true /\ p.2 < 65536
 rise : x.names.Pairwise (fun p q => bytesBefore p.1 q.1 = true)
 no : x.n.kind ≠ 2 -> x.names = []
 kd : x.n.kind = 1 ∨ x.n.kind = 2
theorem before_asymm (a b : List UInt8) (h : bytesBefore a b = true) : bytesBefore b a = false:=by
 cases hb : bytesBefore b a with
 | false => rfl
 | true => exact absurd (before_lt b a hb) (List.lt_asymm (before_lt a b h))
theorem putK_snoc (k : List UInt8) (v : Nat) (L : List (List UInt8 × Nat)) (h : ∀ p ∈ L,bytesBefore p.1 k = true) : putK strS k v L = L ++ [(k,v)]:=by
 have hf : L.filter (fun p => !decide (p.1 = k)) = L:=List.filter_eq_self.2 (fun p hp => by
  have h1:=h p hp
  have : p.1 ≠ k:=fun e => by rw [e] at h1; exact List.lt_irrefl _ (before_lt _ _ h1)
  simp [this])
 unfold putK
 rw [hf]
 clear hf
 induction L with
 | nil => rfl
 | cons y r ih =>
  have h1:=before_asymm _ _ (h y (List.mem_cons_self ..))
  have e : insK strS (k,v) (y :: r) = y :: insK strS (k,v) r:=by
   show (if strS.lt k y.1 then _ else _) = _
   rw [show strS.lt k y.1 = false from h1]
   rfl
  rw [e,ih (fun p hp => h p (List.mem_cons_of_mem _ hp))]
  rfl
theorem lss_no (a b : List UInt8) (h : bytesBefore b a = true) : (Op.bytesLess (strOf a).toList (strOf b).toList || (strOf a).toList == (strOf b).toList) = false:=by
 rw [strOf_toList,strOf_toList,bytesLess_eq]
 have h1:=before_lt _ _ h
 have h2 : ¬ a < b:=List.lt_asymm h1
 have h3 : ¬ a = b:=fun e => by rw [e] at h1; exact List.lt_irrefl _ h1
 simp [h2,h3]
def lastN (l : List (List UInt8 × Nat)) : List UInt8:=(l.getLast?.map (·.1)).getD []
theorem lastN_snoc (l : List (List UInt8 × Nat)) (p : List UInt8 × Nat) : lastN (l ++ [p]) = p.1:=by simp [lastN]
theorem nmBytes_cons (p : List UInt8 × Nat) (l : List (List UInt8 × Nat)) : nmBytes (p :: l) = lenBytes p.1 ++ (be p.2 2 ++ nmBytes l):=by simp [nmBytes]
theorem before_nil (a : List UInt8) (h : a ≠ []) : bytesBefore [] a = true:=by
 cases a with
 | nil => exact absurd rfl h
 | cons x r => rfl
theorem goodN_ne {s : List UInt8} (h : goodN s = true) : s ≠ []:=by
 intro e
 subst e
 exact absurd h (by decide)
theorem take_rise {l : List (List UInt8 × Nat)} (h : l.Pairwise (fun p q => bytesBefore p.1 q.1 = true)) {j : Nat} (hj : j < l.length) : (∀ p ∈ l.take j,bytesBefore p.1 (l[j]'hj).1 = true):=by
 intro p hp
 obtain ⟨i,hi,rfl⟩:=List.getElem_of_mem hp
 rw [List.getElem_take]
 rw [List.length_take] at hi
 exact List.pairwise_iff_getElem.1 h i j (by omega) hj (by omega)
theorem node_at {w : World} {N : Nat} {n : Nd} (h : w.heap[N]? = some (.cells n.cells 34 (0,0))) :
  w.cell? ⟨N,0,none⟩ = some (.int .i64 n.id) /\ w.cell? ⟨N,1,none⟩ = some (.int .i64 n.kind) /\ w.cell? ⟨N,2,none⟩ = some (.int .i64 n.links) /\ w.cell? ⟨N,3,none⟩ = some (.int .i64 n.size) /\ w.cell? ⟨N,4,none⟩ = some (.int .u64 (n.til : Int)) /\ w.cell? ⟨N,5,none⟩ = some (.bool n.closed) :=
 ⟨cells_at h 0,cells_at h 1,cells_at h 2,cells_at h 3,cells_at h 4,cells_at h 5⟩
theorem tread_any {P q : Nat} {rb : Option Nat} {W : World} {L : List UInt8} (x : It) (hx : ItOk x) (h : RC P q rb W (itBytes x ++ L)) :
  Calls Tryz.prog 273 #[.pointer (some ⟨q,0,none⟩)] W fun e w' => ∃ g nb,e = .returned (.tuple #[.pointer (some ⟨g,0,none⟩),.bool true]) /\ ItAt w' W.heap.size W.heap.size g nb x /\ RC P q rb w' L /\ Chg (fun k => k = q) W w':=by
 have HX:=qh hx
 have hqW:=h.qlt
 have HRB:=qh h.rlt
 have hlen:=h.len
 have e0 : itBytes x ++ L = lenBytes x.n.bytes ++ (lenBytes x.b ++ (be x.names.length 2 ++ (nmBytes x.names ++ L))):=by unfold itBytes; simp [List.append_assoc]
 rw [e0] at h
 have HR1:=qh (rc_bytes _ h (by rw [x.n.bytes_length]; omega))
 have hd1:=ndDec_bytes x.n hx.ok hx.til
 have HD:=qh hd1
 have hbl:=hx.bl
 have hnl:=hx.nl
 obtain ⟨H,hH⟩:=qnm W.heap.size
 rw [<- hH] at hqW
 have HH:=qh hH
 clear h e0 hd1 hlen hx hH
 go_enter Tryz.func273,Tryz.ntmps273
 go_wp2_with fail
 refine HR1.out.mono ?_
 rintro e w1 ⟨⟨v1,rfl,ho1⟩,hR1,hc1⟩
 obtain ⟨a1,k1,rfl,hB1⟩:=ho1.bsn (n:=16) x.n.bytes_length
 have HN:=qh (ndec_any a1 16 k1 _ w1 hB1 (by unfold big; decide))
 rw [HD.out] at HN
 have HC1:=qh (aI hR1 hc1)
 clear ho1 hB1 hR1 hc1 HR1
 go_wp2_with fail
 refine HN.out.mono ?_
 rintro e w2 ⟨rfl,hb2⟩
 have HC2:=qh (aI (HC1.out.1.below hb2) (HC1.out.2.step hb2))
 unfold decV Nd.cells
 simp only [Option.getD_some,Option.isSome_some,if_true]
 clear hb2 HN HC1
 go_upto_region 2 with fail
 obtain ⟨w3,hw3⟩:=qnm (w2.alloc (.cells #[.int .i64 x.n.id,.int .i64 x.n.kind,.int .i64 x.n.links,.int .i64 x.n.size,.int .u64 (x.n.til : Int),.bool x.n.closed] 34))
 rw [<- hw3]
 obtain ⟨M,hM⟩:=qnm w2.heap.size
 rw [<- hM]
 have hz3 : w3.heap[M]? = some (.cells x.n.cells 34 (0,0)):=by rw [hM,hw3]; exact heap_alloc_new w2 _
 have hMH : H <= M:=by rw [hM,HH.out]; exact HC2.out.2.size
 have HC3:=qh (show RC P q rb w3.drew (lenBytes x.b ++ (be x.names.length 2 ++ (nmBytes x.names ++ L))) /\ Chg (fun k => k = q) W w3.drew from by
  have hb : Below w2.heap.size w2 w3.drew:=by rw [hw3]; exact ((Below.refl _ _).alloc (Nat.le_refl _) _).drew
  exact ⟨HC2.out.1.below hb,HC2.out.2.step hb⟩)
 have HR3:=qh (rc_bytes _ HC3.out.1 (by omega))
 have hMq : M ≠ q:=by omega
 have HM:=qh (aI hMH hMq)
 clear hw3 hM HC2 hMH
 refine heldB_start (fun i => [0,1,2,3,4].contains i) (fun w' => w'.heap[M]? = some (.cells x.n.cells 34 (0,0))) (by kernel_rfl) ?_ (fun hHeld => ?_)
 ·exact hz3
 refine heldB_take (i:=0) (v:=?_) 16 rfl (by kernel_rfl) (by kernel_rfl) (by kernel_rfl) (by kernel_rfl) (fun _ _ _ h => h) rfl (by assumption) (Or.inl ⟨by rfl,?_⟩) ?_
 rotate_left
 ·intro w hSw; (try dsimp only at hSw); obtain ⟨y0,y1,y2,y3,y4,y5⟩:=node_at hSw; go_simp; (try with_reducible rfl)
 simp only [List.set_cons_zero,List.set_cons_succ]
 refine qtk 1 17 ?_
 simp only [qz0,qz1]
 refine qone 2 fun K hK => ?_
 go_simp
 refine (HR3.out).mono ?_
 rintro e w4 ⟨⟨v4,rfl,ho4⟩,hR4,hc4⟩
 obtain ⟨bn,hbn⟩ : ∃ bn,x.b.length = bn:=⟨_,rfl⟩
 obtain ⟨a4,k4,rfl,_⟩:=ho4.bsn hbn
 have hHeld : (fun w' => w'.heap[M]? = some (.cells x.n.cells 34 (0,0))) w4:=(hc4.block M (ltH hHeld) HM.out.2).trans hHeld
 have HC4:=qh (aI hR4 (aI (HC3.out.2.two hc4) (aI (ho4.base HC3.out.2.size) (aI hbn.symm hHeld))))
 clear hR4 hc4 ho4 hbn
 go_wp2_with fail
 refine hK.out _ _ (fun _ => hHeld) ?_
 clear hK K
 refine qtk 3 19 ?_
 simp only [qz0,qz1]
 refine qone 4 fun K hK => ?_
 go_simp
 refine hK.out _ _ (fun _ => (((Below.refl _ w4).alloc (Nat.le_refl _) _).block M (ltH HC4.out.2.2.2.2)).trans HC4.out.2.2.2.2) ?_
 clear hK K
 refine qfr 5 6 ?_
 simp only [qz0,qz1]
 refine qdon ?_
 clear hHeld hz3
 obtain ⟨w5,hw5⟩:=qnm (w4.alloc (.cells #[.int .i64 x.n.id,.int .i64 x.n.kind,.int .i64 x.n.links,.int .i64 x.n.size,.int .u64 (x.n.til : Int),.bool x.n.closed,.slice a4 bn k4,.map none] TItem))
 rw [<- hw5]
 obtain ⟨g,hg⟩:=qnm w4.heap.size
 rw [<- hg]
 obtain ⟨hR4,hc4,ho4,hbn,hn4⟩:=HC4.out
 have hb5:=qba hw5
 have hz5 : w5.heap[g]? = some (.cells (itC x.n (.slice a4 bn k4) (.map none)) TItem (0,0)):=by rw [hg,hw5]; exact heap_alloc_new w4 _
 have hn5:=(hb5.block M (Array.getElem?_eq_some_iff.1 hn4).1).trans hn4
 have hgM : H <= g:=by rw [hg,HH.out]; exact hc4.size
 have hR5:=hR4.below hb5
 have hc5:=hc4.step hb5
 have ho5:=ho4.below hb5
 have hgq : g ≠ q:=by omega
 have HB5:=qh (aI hbn hgM)
 obtain ⟨d0,d1,d2,d3,d4,d5,d6,d7⟩:=item_cells hz5
 obtain ⟨f0,f1,f2,f3,f4,f5⟩:=node_at hn5
 obtain ⟨count,hcount⟩:=qnm x.names.length
 rw [<- hcount] at hR5 hnl
 have hbd:=(Below.refl w5.heap.size w5).drew
 have HR5:=qh (rc_short count (hR5.below hbd) (by omega))
 have HCT:=qh hcount
 have HW5:=qh (show Chg (fun k => k = q) W w5.drew /\ Own w5.drew W.heap.size (.slice a4 bn k4) x.b /\ w5.drew.heap[g]? = some (.cells (itC x.n (.slice a4 bn k4) (.map none)) TItem (0,0)) /\ w5.drew.heap[M]? = some (.cells x.n.cells 34 (0,0)) from ⟨hc5.step hbd,ho5.below hbd,hz5,hn5⟩)
 have e2 : ((bn : Int) != x.n.size) = false:=by rw [bne_eq_false_iff_eq,<- HX.out.sz,hbn]
 have HG:=qh (aI hgq (ltH hz5))
 have hMl:=ltH hn5
 have hgl:=ltH hz5
 clear hw5 hg hb5 hR4 hc4 ho4 hn4 HC4 hR5 hc5 ho5 hz5 hn5 hgM hgq hcount hbn hbd
 go_upto_region 3 with fail
 refine heldB_start (fun i => [0,1,2,3,4,5,6,7,8,9,10,11].contains i) (fun w' => w'.cell? ⟨g,6,none⟩ = some (.slice a4 bn k4) /\ w'.cell? ⟨M,3,none⟩ = some (.int .i64 x.n.size)) (by kernel_rfl) ?_ (fun hHeld => ?_)
 ·go_keep
 refine qtk 0 21 ?_
 simp only [qz0,qz1]
 refine qtk 1 22 ?_
 simp only [qz0,qz1]
 refine qtk 2 23 ?_
 simp only [qz0,qz1]
 refine qtk 3 24 ?_
 simp only [qz0,qz1]
 refine qtk 4 25 ?_
 simp only [qz0,qz1]
 refine qtk 5 26 ?_
 simp only [qz0,qz1]
 refine qtk 6 27 ?_
 simp only [qz0,qz1]
 refine qtk 7 28 ?_
 simp only [qz0,qz1]
 refine qtk 8 29 ?_
 simp only [qz0,qz1]
 refine qtk 9 30 ?_
 simp only [qz0,qz1]
 refine qtk 10 31 ?_
 simp only [qz0,qz1]
 refine qtk 11 32 ?_
 simp only [qz0,qz1]
 refine qdon ?_
 clear hHeld
 go_wp2_with fail
 refine HR5.out.mono ?_
 rintro e w6 ⟨rfl,hR6,hc6⟩
 obtain ⟨hc5,ho5,hz5,hn5⟩:=HW5.out
 have hMq:=HM.out.2
 have hz6:=(hc6.block g hgl HG.out.1).trans hz5
 have hn6:=(hc6.block M hMl hMq).trans hn5
 have ho6:=hc6.own ho5 (fun k hk e => by have:=ho5.ge k hk; have:=HH.out; omega)
 have hcc6:=hc5.two hc6
 obtain ⟨d0,d1,d2,d3,d4,d5,d6,d7⟩:=item_cells hz6
 obtain ⟨f0,f1,f2,f3,f4,f5⟩:=node_at hn6
 obtain ⟨kd,hkd⟩:=qnm x.n.kind
 rw [<- hkd] at f1
 have HW6:=qh (aI hR6 (aI hcc6 (aI ho6 hz6)))
 have HKD:=qh hkd
 clear hc5 ho5 hz5 hn5 HR5 HW5 hR6 hc6 hcc6 ho6 hz6 hn6 hMl hgl e2 hMq
 by_cases hk : kd = 1
 ·subst hk
  have hnn : x.names = []:=HX.out.no (by rw [<- hkd]; decide)
  obtain rfl : count = 0:=by rw [HCT.out,hnn]; rfl
  have HNN:=qh hnn
  clear hnn hkd
  go_wp2_with fail
  go_ret2
  obtain ⟨hR6,hcc6,ho6,hz6⟩:=HW6.out
  refine ⟨g,0,rfl,⟨by rw [<- HH.out]; exact HB5.out.2,_,_,hz6,ho6,fun hk2 => ?_,fun _ => ⟨rfl,HNN.out⟩⟩,?_,hcc6⟩
  ·exact absurd (HKD.out.trans hk2) (by decide)
  ·simpa [HNN.out,nmBytes] using hR6
 ·have hk2 : kd = 2:=by
   rcases HX.out.kd with h1 | h1
   ·exact absurd (hkd.trans h1) hk
   ·exact hkd.trans h1
  subst hk2
  have HK2:=qh hkd.symm
  clear hk hkd
  obtain ⟨hR6,hcc6,ho6,hz6⟩:=HW6.out
  have hgl6:=ltH hz6
  have fz6:=frz_of hz6 7
  clear hR6 hcc6 ho6 hz6 d0 d1 d2 d3 d4 d5 d6 f0 f2 f3 f4 f5
  go_upto_region 9 with (rw [run_makeMap])
  obtain ⟨hR6,hcc6,ho6,hz6⟩:=HW6.out
  have hHg : H <= g:=HB5.out.2
  obtain ⟨nb,hnb⟩:=qnm w6.heap.size
  rw [<- hnb]
  obtain ⟨w7,hw7⟩:=qnm (w6.setCell ⟨g,7,none⟩ (.map (some nb)))
  have hc7 : Chg (fun k => k = g) w6 w7:=by rw [hw7]; exact chg_set w6 g 7 _
  have hz7 : w7.heap[g]? = some (.cells (itC x.n (.slice a4 bn k4) (.map (some nb))) TItem (0,0)):=by rw [hw7]; exact cells_set hz6
  have hs7 : w7.heap.size = nb:=by rw [hw7,hnb]; simp [World.setCell]
  rw [<- hw7]
  obtain ⟨w8,hw8⟩:=qnm (w7.alloc (.map #[] 0))
  have hb8:=qba hw8
  have hm8 : MapAt strS Tryz.prog TStr w8 nb (vals nval (x.names.take 0)):=by rw [hw8,<- hs7]; exact MapAt.made strS w7
  rw [<- hw8]
  have hz8:=(hb8.block g (ltH hz7)).trans hz7
  have hgn : g < nb:=by rw [hnb]; exact ltH hz6
  have hR8 : RC P q rb w8 (nmBytes x.names ++ L):=(hR6.chg hc7 (fun k hk e => by
   rcases hk with hk | hk
   ·exact HG.out.1 (by rw [<- hk,<- e])
   ·have:=HRB.out k hk; have:=HH.out; omega)).below hb8
  have ho8 : Own w8 W.heap.size (.slice a4 bn k4) x.b:=by
   refine (ho6.chg0 hc7 (fun k hk e C hC => ?_)).below hb8
   subst e
   rw [hz6] at hC; injection hC with hC; injection hC with _ hC; exact absurd hC (by decide)
  have hcc8 : Chg (fun k => k = q) W w8:=(hcc6.trans hc7 (fun k hk e => by have:=HH.out; omega)).step hb8
  have hnbl : H <= nb:=by omega
  have HW8:=qh (aI hz8 (aI hR8 (aI ho8 (aI hm8 hcc8))))
  have HNB:=qh (aI hgn (aI hnbl hHg))
  clear hgl6 fz6 hw7 hc7 hs7 hnb hz7 hgn hw8 hb8 hz8 hR8 ho8 hm8 hcc8 hnbl hR6 hcc6 ho6 hz6 hHg HW6 d7 f1
  go_wp2_with fail
  go_loopw [8,46] (fun l i wr => ∃ j : Nat,j <= count /\ i = .int .i64 (j : Int) /\ l = .string (strOf (lastN (x.names.take j))) /\ wr.heap[g]? = some (.cells (itC x.n (.slice a4 bn k4) (.map (some nb))) TItem (0,0)) /\ RC P q rb wr (nmBytes (x.names.drop j) ++ L) /\ Own wr W.heap.size (.slice a4 bn k4) x.b /\ MapAt strS Tryz.prog TStr wr nb (vals nval (x.names.take j)) /\ Chg (fun k => k = q) W wr) (fun _ i _ => count - (intOf i).toNat)
  case atStart =>
   obtain ⟨hz8,hR8,ho8,hm8,hcc8⟩:=HW8.out
   exact ⟨0,Nat.zero_le _,rfl,rfl,hz8,by simpa using hR8,ho8,hm8,hcc8⟩
  case round =>
   obtain ⟨j,hj,rfl,rfl,hz,hR,ho,hm,hcc⟩:=hrel
   clear HW8
   by_cases hlt : j < count
   ·have hjl : j < x.names.length:=by rw [<- HCT.out]; exact hlt
    have hdr:=List.drop_eq_getElem_cons hjl
    have htk:=List.take_append_getElem hjl
    have hp:=HX.out.good _ (List.getElem_mem hjl)
    have hris:=take_rise HX.out.rise hjl
    generalize x.names[j]'hjl = p at hdr htk hp hris
    obtain ⟨s,kk⟩:=p
    simp only at hp hris
    obtain ⟨hgood,hkk⟩:=hp
    have hsl:=goodN_len hgood
    rw [hdr,nmBytes_cons] at hR
    simp only [List.append_assoc] at hR
    obtain ⟨LT,hLT⟩:=qnm (nmBytes (x.names.drop (j + 1)) ++ L)
    rw [<- hLT] at hR
    have HRb:=qh (rc_bytes s hR (by omega))
    obtain ⟨la,hla⟩:=qnm (lastN (x.names.take j))
    have hbef : bytesBefore la s = true:=by
     rw [hla]
     unfold lastN
     cases hq : (x.names.take j).getLast? with
     | none => exact before_nil s (goodN_ne hgood)
     | some y => exact hris y (List.mem_of_getLast? hq)
    rw [<- hla]
    have HLE:=qh (lss_no s la hbef)
    have hput:=putK_snoc s kk (x.names.take j) hris
    rw [htk] at hput
    have HPT:=qh (aI hput htk)
    have hlast : lastN (x.names.take (j + 1)) = s:=by rw [<- htk,lastN_snoc]
    have HLS:=qh (aI hlast hLT)
    have htl : (vals nval (x.names.take j)).length <= 1000000:=by rw [vals_len,List.length_take]; omega
    have HTL:=qh htl
    have HGD:=qh hgood
    have HWj:=qh (aI hz (aI ho (aI hm hcc)))
    have e1 : (0 : Int) <= (j : Int):=by omega
    have e2 : (j : Int) < (count : Int):=by omega
    obtain ⟨j2,hj2⟩:=qnm (j + 1)
    have e3 : IntKind.i64.wrap ((j : Int) + 1) = (j2 : Int):=by rw [IntWalk.i64_in _ (by omega)]; omega
    have HJ:=qh hj2
    clear hjl hdr htk hris hgood hR hLT hla hbef hput hlast htl hz ho hm hcc hj2 hj
    go_wp2_with fail
    refine HRb.out.mono ?_
    rintro e wa ⟨⟨va,rfl,hoa⟩,hRa,hca⟩
    obtain ⟨sl,hsl'⟩ : ∃ sl,s.length = sl:=⟨_,rfl⟩
    obtain ⟨aa,ka,rfl,hBa⟩:=hoa.bsn hsl'
    have hs:=run_string hBa
    obtain ⟨hz,ho,hm,hcc⟩:=HWj.out
    have hHq:=hqW
    have hza:=(hca.block g (ltH hz) HG.out.1).trans hz
    have hoa2:=hca.own ho (fun k hk e => by have:=ho.ge k hk; have:=HH.out; omega)
    have hma : MapAt strS Tryz.prog TStr wa nb (vals nval (x.names.take j)):=hm.same strS (hca.block nb hm.lt (by have:=HNB.out; omega))
    have hcca:=hcc.two hca
    have HRk:=qh (rc_short kk (L:=LT) (hRa.below (Below.refl _ _).drew) hkk)
    have HWa:=qh (aI hza (aI hoa2 (aI hma hcca)))
    have c7 : wa.drew.cell? ⟨g,7,none⟩ = some (.map (some nb)):=cells_at hza 7
    have HC7:=qh c7
    clear hz ho hm hcc hza hoa2 hma hcca hoa hBa hRa hca HWj HRb hHq
    go_upto_region 13 with fail
    refine heldB_start (fun i => [0,1,2,3,4,5,6].contains i) (fun w' => w'.cell? ⟨g,7,none⟩ = some (.map (some nb))) (by kernel_rfl) ?_ (fun hHeld => ?_)
    ·exact c7
    refine qtk 0 51 ?_
    simp only [qz0,qz1]
    refine qtk 1 52 ?_
    simp only [qz0,qz1]
    refine qtk 2 53 ?_
    simp only [qz0,qz1]
    refine qtk 3 54 ?_
    simp only [qz0,qz1]
    refine qtk 4 55 ?_
    simp only [qz0,qz1]
    refine qtk 5 56 ?_
    simp only [qz0,qz1]
    refine qone 6 fun K hK => ?_
    go_simp
    refine (HRk.out).mono ?_
    rintro e wb ⟨rfl,hRb,hcb⟩
    have hHeld : (fun w' => w'.cell? ⟨g,7,none⟩ = some (.map (some nb))) wb:=(hcb.cell (o:=7) (ltH HWa.out.1) HG.out.1).trans hHeld
    go_wp2_with fail
    refine hK.out _ _ (fun _ => hHeld) ?_
    clear hK K
    obtain ⟨hza,hoa2,hma,hcca⟩:=HWa.out
    have hcb0 : Chg (fun k => k = q) wa wb:=((Chg.refl (fun k => k = q) wa).drew).two hcb
    have hzb:=(hcb0.block g (ltH hza) HG.out.1).trans hza
    have hob:=hcb0.own hoa2 (fun k hk e => by have:=hoa2.ge k hk; have:=HH.out; omega)
    have hmb : MapAt strS Tryz.prog TStr wb nb (vals nval (x.names.take j)):=hma.same strS (hcb0.block nb hma.lt (by have:=HNB.out; omega))
    obtain ⟨wc,hr3,hm3,ht3⟩:=hmb.put strS skeyed nkeyed_ty HTL.out (skey s (by unfold maxLen; omega)) (.int .i64 (kk : Int))
    have hcc3:=turned_chg ht3
    have HWc:=qh (show wc.heap[g]? = some (.cells (itC x.n (.slice a4 bn k4) (.map (some nb))) TItem (0,0)) /\ Own wc W.heap.size (.slice a4 bn k4) x.b /\ MapAt strS Tryz.prog TStr wc nb (vals nval (x.names.take (j + 1))) /\ Chg (fun k => k = q) W wc /\ RC P q rb wc LT from by
     have hn:=HNB.out
     have hh:=HH.out
     refine ⟨(hcc3.block g (ltH hzb) (by omega)).trans hzb,hob.chg0 hcc3 (fun k hk e C hC => ?_),?_,(hcca.two hcb0).trans hcc3 (fun k hk e => by omega),hRb.chg hcc3 (fun k hk e => ?_)⟩
     ·obtain ⟨es,cl,hh2,_⟩:=hmb
      rw [e,hh2] at hC; injection hC with hC; cases hC
     ·have e5:=vals_put strS nval (x.names.take j) s kk
      rw [HPT.out.1] at e5
      rw [<- e5]
      exact hm3
     ·rcases hk with hk | hk
      ·omega
      ·have:=HRB.out k hk; omega)
    clear hza hoa2 hma hcca hcb0 hzb hob hmb hm3 ht3 hcc3 hRb hcb
    refine qone 7 fun K hK => ?_
    refine step_mapput (by rfl) (.tmp 54) (.tmp 55) (.tmp 57) 190 rfl _ _ _ (by rfl) (by rfl) (by rfl) hr3 ?_
    refine hK.out _ _ (fun h => by simp at h) ?_
    clear hK K
    refine qdon ?_
    clear hHeld hr3
    obtain ⟨hzc,hoc,hmc,hccc,hRc⟩:=HWc.out
    have HGc:=qh (good_any s (by omega) wc)
    rw [HGD.out] at HGc
    have HLc:=qh (rc_left hRc)
    have HEc:=qh (rc_end hRc)
    have HFc:=qh (show ∀ w',Below wc.heap.size wc w' -> w'.heap[g]? = some (.cells (itC x.n (.slice a4 bn k4) (.map (some nb))) TItem (0,0)) /\ RC P q rb w' LT /\ Own w' W.heap.size (.slice a4 bn k4) x.b /\ MapAt strS Tryz.prog TStr w' nb (vals nval (x.names.take (j + 1))) /\ Chg (fun k => k = q) W w' from fun w' hb =>
     ⟨(hb.block g (ltH hzc)).trans hzc,hRc.below hb,hoc.below hb,hmc.below strS hb,hccc.step hb⟩)
    obtain ⟨LN,hLN⟩:=qnm LT.length
    rw [<- hLN] at HLc
    have hE : LN = 0 -> LT = []:=fun h => List.length_eq_zero_iff.1 (by rw [<- hLN]; exact h)
    have HEE:=qh hE
    clear hzc hoc hmc hccc hRc hLN hE HC7 c7
    go_upto_region 14 with fail
    simp only [Act.put,List.getElem_toArray,List.getElem_cons_succ,List.getElem_cons_zero]
    go_cut [75] (fun v wx => v = .bool false /\ Below wc.heap.size wc wx)
    case first =>
     by_cases h0 : LN = 0
     ·subst h0
      rw [if_pos (HEE.out rfl)] at HEc
      go_wp2_with fail
      refine HLc.out.mono ?_
      rintro e w' ⟨rfl,rfl⟩
      go_wp2_with fail
      refine HEc.out.mono ?_
      rintro e w' ⟨rfl,rfl⟩
      go_wp2_with fail
      refine HGc.out.mono ?_
      rintro e wd ⟨rfl,hbd⟩
      have HBD:=qh hbd
      clear hbd
      go_wp2_with fail
      go_meet
      exact ⟨congrArg Value.bool HLE.out,HBD.out⟩
     ·have e4 : ((LN : Int) == 0) = false:=by rw [beq_eq_false_iff_ne]; omega
      clear HEc
      go_wp2_with fail
      refine HLc.out.mono ?_
      rintro e w' ⟨rfl,rfl⟩
      go_wp2_with fail
      refine HGc.out.mono ?_
      rintro e wd ⟨rfl,hbd⟩
      have HBD:=qh hbd
      clear hbd
      go_wp2_with fail
      go_meet
      exact ⟨congrArg Value.bool HLE.out,HBD.out⟩
    case rest =>
     obtain ⟨rfl,hbd⟩:=hcut
     have HFd:=qh (HFc.out _ hbd)
     clear hbd HEc HGc HLc HFc HEE
     go_wp2_with fail
     go_roundw
     case rel =>
      obtain ⟨k1,k2,k3,k4,k5⟩:=HFd.out
      have hj2:=HJ.out
      refine ⟨j2,by omega,rfl,?_,k1,?_,k3,?_,k5⟩
      ·rw [hj2,HLS.out.1]
      ·rw [hj2,<- HLS.out.2]; exact k2
      ·rw [hj2]; exact k4
     case measure =>
      have hj2:=HJ.out
      show count - (j2 : Int).toNat < count - (j : Int).toNat
      omega
   ·obtain rfl : j = count:=by omega
    clear hlt
    have hd : x.names.drop j = []:=List.drop_eq_nil_of_le (by rw [HCT.out]; exact Nat.le_refl _)
    have ht : x.names.take j = x.names:=List.take_of_length_le (by rw [HCT.out]; exact Nat.le_refl _)
    rw [hd] at hR
    rw [ht] at hm ⊢
    have HF:=qh (aI hz (aI hR (aI ho (aI hm hcc))))
    clear hz hR ho hm hcc hd ht
    go_wp2_with fail
    go_ret2
    obtain ⟨k1,k2,k3,k4,k5⟩:=HF.out
    have hh:=HH.out
    have hn:=HNB.out
    refine ⟨g,nb,rfl,⟨by omega,_,_,k1,k3,fun _ => ⟨rfl,by omega,k4⟩,fun hne => absurd HK2.out hne⟩,?_,k5⟩
    simpa [nmBytes] using k2
end
end Go.Proofs.YtabdcphioccgnaaGreatDoor
