/- TreeLinks; TreeRight. -/
import Derived.Test.YtabdcphioccgnaaGreatDoorK31
set_option maxRecDepth 100000
set_option maxHeartbeats 8000000
namespace Go.Proofs.YtabdcphioccgnaaGreatDoor
section
open Go.RowKit Go.ChangeMaps Go.MapKept Go.Maps
def subN (cn : Nat -> List Nat) (T : Tr) (k : Nat) : List Nat:=match getK k T with | some y => if y.n.kind = 2 then cn k else [] | none => []
def cntN (T : Tr) : Nat -> Nat -> List Nat
 | 0,_ => []
 | f + 1,i => match getK i T with | some x => x.names.flatMap fun p => p.2 :: subN (cntN T f) T p.2 | none => []
def Deep (T : Tr) : Nat -> Nat -> Prop
 | 0,i => ∃ x,getK i T = some x /\ x.n.kind = 2 /\ x.names = []
 | f + 1,i => ∃ x,getK i T = some x /\ x.n.kind = 2 /\ ∀ p ∈ x.names,p.2 ≠ 0 /\ ∃ y,getK p.2 T = some y /\ (y.n.kind = 2 -> Deep T f p.2)
def cntK (K : List (Nat × Nat)) (k : Nat) : Nat:=(getK k K).getD 0
def cval (_ : Nat) (n : Nat) : Value:=.int .i64 (n : Int)
theorem cntK_put (K : List (Nat × Nat)) (k n j : Nat) : cntK (putK numS k n K) j = if j = k then n else cntK K j:=by
 unfold cntK
 rw [getK_put]
 by_cases h : j = k
 ·rw [if_pos h,if_pos h]; rfl
 ·rw [if_neg h,if_neg h]
theorem keys_put (K : List (Nat × Nat)) (k n c : Nat) (h : ∀ p ∈ K,p.1 <= c) (hk : k <= c) : ∀ p ∈ putK numS k n K,p.1 <= c:=by
 have hins : ∀ (L : List (Nat × Nat)) (x : Nat × Nat),(∀ p ∈ L,p.1 <= c) -> x.1 <= c -> ∀ p ∈ insK numS x L,p.1 <= c:=by
  intro L x
  induction L with
  | nil => intro _ hx p hp; simp only [insK,List.mem_singleton] at hp; subst hp; exact hx
  | cons y r ih =>
   intro hL hx p hp
   unfold insK at hp
   split at hp
   ·rcases List.mem_cons.1 hp with rfl | hp
    ·exact hx
    ·exact hL p hp
   ·rcases List.mem_cons.1 hp with rfl | hp
    ·exact hL _ (List.mem_cons_self ..)
    ·exact ih (fun q hq => hL q (List.mem_cons_of_mem _ hq)) hx p hp
 exact hins _ (k,n) (fun p hp => h p (List.mem_filter.1 hp).1) hk
def doneN (g : List UInt8 × Nat -> List Nat) (left : Lit -> Bool) (l : List (List UInt8 × Nat)) (k : Nat) : Nat:=(l.map fun p => if left (strS.lit p.1) = true then 0 else (g p).count k).sum
theorem doneN_all (g : List UInt8 × Nat -> List Nat) (left : Lit -> Bool) (l : List (List UInt8 × Nat)) (k : Nat) (h : ∀ z,left z = false) : doneN g left l k = (l.flatMap g).count k:=by
 unfold doneN
 rw [List.count_flatMap]
 congr 1
 refine List.map_congr_left fun p _ => ?_
 rw [h]; rfl
theorem doneN_none (g : List UInt8 × Nat -> List Nat) (left : Lit -> Bool) (l : List (List UInt8 × Nat)) (k : Nat) (h : ∀ p ∈ l,left (strS.lit p.1) = true) : doneN g left l k = 0:=by
 unfold doneN
 induction l with
 | nil => rfl
 | cons y r ih =>
  rw [List.map_cons,List.sum_cons,if_pos (h y (List.mem_cons_self ..)),ih (fun p hp => h p (List.mem_cons_of_mem _ hp))]
theorem doneN_le (g : List UInt8 × Nat -> List Nat) (left : Lit -> Bool) (l : List (List UInt8 × Nat)) (k : Nat) : doneN g left l k <= (l.flatMap g).count k:=by
 unfold doneN
 rw [List.count_flatMap]
 induction l with
 | nil => simp
 | cons y r ih =>
  rw [List.map_cons,List.sum_cons,List.map_cons,List.sum_cons]
  have : (if left (strS.lit y.1) = true then 0 else (g y).count k) <= (List.count k ∘ g) y:=by
   split
   ·omega
   ·exact Nat.le_refl _
  omega
theorem doneN_step (g : List UInt8 × Nat -> List Nat) (left : Lit -> Bool) (k : Nat) (s : List UInt8) (v : Nat) : ∀ (l : List (List UInt8 × Nat)),l.Pairwise (fun p q => p.1 ≠ q.1) -> (s,v) ∈ l -> left (strS.lit s) = true ->
  doneN g (fun z => left z && !z.sameKey (strS.lit s)) l k = doneN g left l k + (g (s,v)).count k
 | [],_,h,_ => by simp at h
 | y :: r,hu,h,hl => by
  obtain ⟨h1,h2⟩:=List.pairwise_cons.1 hu
  have hd : ∀ q : List (List UInt8 × Nat),(∀ p ∈ q,p.1 ≠ s) -> doneN g (fun z => left z && !z.sameKey (strS.lit s)) q k = doneN g left q k:=fun q hq => by
   unfold doneN
   congr 1
   refine List.map_congr_left fun p hp => ?_
   simp only [same_dec,decide_eq_false (hq p hp),Bool.not_false,Bool.and_true]
  have hc : ∀ (lf : Lit -> Bool) (z : List UInt8 × Nat) (q : List (List UInt8 × Nat)),doneN g lf (z :: q) k = (if lf (strS.lit z.1) = true then 0 else (g z).count k) + doneN g lf q k:=fun lf z q => by unfold doneN; rw [List.map_cons,List.sum_cons]
  rw [hc,hc]
  rcases List.mem_cons.1 h with e | h
  ·subst e
   rw [hd r (fun p hp e => h1 p hp e.symm)]
   simp only [same_dec,decide_true,Bool.not_true,Bool.and_false,Bool.false_eq_true,if_false,hl,if_true]
   omega
  ·have hne:=h1 _ h
   simp only at hne
   rw [doneN_step g left k s v r h2 h hl]
   simp only [same_dec,decide_eq_false hne,Bool.not_false,Bool.and_true]
   omega
theorem keyOf_str_inv {key : Value} {kl : Lit} (h : keyOf Tryz.prog TStr key = some kl) : ∃ s : ByteArray,key = .string s /\ kl = .string s.data.toList:=by
 simp only [keyOf,Tryz.underlying9,mapKey] at h
 split at h <;> simp_all
theorem entry_ofS {L : List (List UInt8 × Value)} {x : ByteArray} {c : Value} {kl : Lit} {y : DataW Value × List MemPlace} (hk : keyOf Tryz.prog TStr (.string x) = some kl) (hR : RH c = some y) (hat : ∀ zd,(mapK strS L).atKey kl zd = y.1) :
  ∃ s : List UInt8,x = strOf s /\ kl = strS.lit s /\ getK s L = some c:=by
 obtain ⟨x',ex,rfl⟩:=keyOf_str_inv hk
 injection ex with ex
 subst ex
 simp only [RH,Option.some.injEq] at hR
 subst hR
 refine ⟨x.data.toList,by unfold strOf; rfl,rfl,?_⟩
 have h3:=mapK_at strS x.data.toList (.held (.bool true)) L
 have h4:=mapK_at strS x.data.toList (.held (.bool false)) L
 have h5:=(hat (.held (.bool true))).symm.trans h3
 have h6:=(hat (.held (.bool false))).symm.trans h4
 clear h3 h4 hat
 generalize getK x.data.toList L = g at h5 h6 ⊢
 cases g with
 | none => exact absurd (h5.symm.trans h6) (by simp)
 | some v => simp only [DataW.held.injEq] at h5; rw [h5]
variable {L B t mb c cb : Nat} {F G : Nat -> Nat} {T : Tr} {w0 : World}
def LinksC (w0 : World) (t cb c : Nat) (T : Tr) (f : Nat) : Prop:=∀ (i : Nat) (K : List (Nat × Nat)) (w : World),Below w0.heap.size w0 w -> MapAt numS Tryz.prog TI64 w cb (vals cval K) -> (∀ p ∈ K,p.1 <= c) -> Deep T f i ->
 (∀ k,cntK K k + (cntN T f i).count k <= 1000000) -> (∀ k y,getK k T = some y -> y.n.kind = 2 -> cntK K k + (cntN T f i).count k <= 1) ->
 Calls Tryz.prog 293 #[.pointer (some ⟨t,0,none⟩),.int .i64 (i : Int),.int .i64 ((8 - f : Nat) : Int),.map (some cb)] w fun e w' => e = .returned (.bool true) /\
  (∃ K',MapAt numS Tryz.prog TI64 w' cb (vals cval K') /\ (∀ p ∈ K',p.1 <= c) /\ ∀ k,cntK K' k = cntK K k + (cntN T f i).count k) /\ Chg (fun k => k = cb) w w'
theorem Deep.dir {f i : Nat} (h : Deep T f i) : ∃ x : It,getK i T = some x /\ x.n.kind = 2 /\ ∀ p ∈ x.names,f ≠ 0 /\ p.2 ≠ 0 /\ ∃ y,getK p.2 T = some y /\ (y.n.kind = 2 -> ∀ f',f = f' + 1 -> Deep T f' p.2):=by
 cases f with
 | zero =>
  obtain ⟨x,h1,h2,h3⟩:=h
  exact ⟨x,h1,h2,fun p hp => by rw [h3] at hp; simp at hp⟩
 | succ f =>
  obtain ⟨x,h1,h2,h3⟩:=h
  refine ⟨x,h1,h2,fun p hp => ?_⟩
  obtain ⟨k1,y,k2,k3⟩:=h3 p hp
  exact ⟨by omega,k1,y,k2,fun hk f' e => by cases e; exact k3 hk⟩
theorem cntN_flat {f i : Nat} (h : Deep T f i) {x : It} (hx : getK i T = some x) : cntN T f i = x.names.flatMap fun (p : List UInt8 × Nat) => p.2 :: subN (cntN T (f - 1)) T p.2:=by
 cases f with
 | zero =>
  obtain ⟨x',h1,h2,h3⟩:=h
  rw [hx] at h1
  injection h1 with h1
  subst h1
  rw [h3]; rfl
 | succ f =>
  simp only [cntN,hx]
  rfl
theorem cmap_ty : Tryz.prog.underlying 381 = some (.map TI64 TI64):=Tryz.underlying381
theorem cnt_look {w : World} {K : List (Nat × Nat)} (h : MapAt numS Tryz.prog TI64 w cb (vals cval K)) (k : Nat) (hk : k <= 1000000000) :
  (Instr.lookup 381 (.map (some cb)) (.int .i64 (k : Int)) false).run Tryz.prog w = .ok (.int .i64 (cntK K k : Int)) w:=by
 have:=h.look numS dkeyed cmap_ty (zero_int w) (dkey k hk)
 rw [vals_get] at this
 rw [this]
 unfold cntK
 cases getK k K <;> rfl
theorem links_step (h : TreeIn w0 L B t mb F G T) (ok : TrOk c T) (hc : c <= 60000) (hcb : w0.heap.size <= cb) (f : Nat) (hf : f <= 8) (hrec : ∀ f',f = f' + 1 -> LinksC w0 t cb c T f') : LinksC w0 t cb c T f:=by
 intro i K w hb hK hKc hD hle1 hle2
 obtain ⟨x,hx,hkd,hnm⟩:=hD.dir
 have hflat:=cntN_flat hD hx
 obtain ⟨g,hg⟩ : ∃ g : List UInt8 × Nat -> List Nat,g = fun p => p.2 :: subN (cntN T (f - 1)) T p.2:=⟨_,rfl⟩
 rw [<- hg] at hflat
 rw [hflat] at hle1 hle2 ⊢
 have hTw:=h.below hb
 have hi:=(ok.nd i x hx).1
 have c0:=hTw.cell0
 have hhit:=hTw.hit hx (by omega)
 obtain ⟨_,v,m,h2,_,h4,_⟩:=hTw.item i x hx
 obtain ⟨rfl,_,hM⟩:=h4 hkd
 have hne : x.names.Pairwise (fun p q => p.1 ≠ q.1):=hM.srising.imp (fun {a b} hab e => by rw [e] at hab; have:=before_lt _ _ hab; exact absurd this (List.lt_irrefl _))
 obtain ⟨_,_,_,_,_,_,_,d7⟩:=item_cells h2
 have hmne : ∀ W,Below w0.heap.size w0 W -> G i < w0.heap.size:=fun _ _ => by
  obtain ⟨_,v',m',k2,_,k4,_⟩:=h.item i x hx
  exact (k4 hkd).2.2.lt
 have hGl:=hmne w hb
 obtain ⟨n,hn⟩:=qnm ((vals nval x.names).length)
 have HT:=qh (aI h ok)
 have HP:=qh (aI hnm (aI hne (aI hg hrec)))
 have HL:=qh (aI hle1 hle2)
 have HB:=qh (aI hb (aI hK hKc))
 have HM:=qh (aI hM hn)
 have HC:=qh (aI hcb hGl)
 obtain ⟨d,hd⟩:=qnm (8 - f)
 rw [<- hd]
 have HDP:=qh (aI hd hf)
 clear h ok hnm hne hle1 hle2 hb hK hKc hflat hD h2 h4 hTw hx hkd hmne hM hn hcb hGl hrec hd hi hg
 go_enter Tryz.func293,Tryz.ntmps293
 go_wp2_with (first
  | (at_range; refine wpList_range_own _ rfl _ 190 rfl TStr _ skeyed nkeyed_ty RH (G i) n _ rfl (by rw [HM.out.2]; exact HM.out.1) ?_; intro wa hrg0 hg0 hs0)
  | fail)
 obtain ⟨r0,hr0⟩:=qnm w.heap.size
 rw [<- hr0] at hrg0 ⊢
 have HR0:=qh (aI hr0 (aI hg0 hs0))
 have HRG0:=qh hrg0
 clear hr0 hg0 hs0 hrg0 c0 hhit d7
 go_frame
 go_loopw [10,11,12] (fun _ _ _ wx => ∃ (left : Lit -> Bool) (cnt : Nat) (Kx : List (Nat × Nat)),wx.ranges Tryz.prog TStr RH (G i) r0 n (mapK strS (vals nval x.names)) left cnt /\ MapAt numS Tryz.prog TI64 wx cb (vals cval Kx) /\ (∀ p ∈ Kx,p.1 <= c) /\
   (∀ k,cntK Kx k = cntK K k + doneN g left x.names k) /\ Chg (fun k => k = cb) w wx /\ r0 < wx.heap.size)
  (fun _ _ _ wx => wx.rangeLeft (G i) r0)
 case atStart =>
  obtain ⟨hr0,hg0,hs0⟩:=HR0.out
  obtain ⟨hb,hK,hKc⟩:=HB.out
  have hb0 : Below w.heap.size w wa:=(Below.refl _ w).grown hg0 (Nat.le_refl _) (fun k hk => by cases hk)
  refine ⟨_,_,K,HRG0.out,hK.below numS hb0,hKc,fun k => ?_,Chg.of_below hb0 _,by omega⟩
  rw [doneN_none]
  ·rfl
  ·intro p hp
   rw [mapK_has,vals_get,getK_of_mem HP.out.2.1 (k:=p.1) (v:=p.2) hp]; rfl
 case round =>
  obtain ⟨left,cnt,Kx,hrg,hKx,hKxc,hcnt,hch,hrlt⟩:=hrel
  clear HRG0
  go_wp2_with (first
   | (at_next; refine wpList_next_ranges _ rfl _ rfl TStr skeyed RH Value.string (fun v => v) (fun key kl hk => by obtain ⟨x,rfl,_⟩:=keyOf_str_inv hk; exact ⟨x,rfl⟩) (fun v _ _ => ⟨v,rfl⟩) (G i) r0 n _ _ _ rfl hrg ?_ ?_)
   | fail)
  ·intro _ hl0
   have HF:=qh (show (∃ K',MapAt numS Tryz.prog TI64 wr cb (vals cval K') /\ (∀ p ∈ K',p.1 <= c) /\ ∀ k,cntK K' k = cntK K k + (x.names.flatMap g).count k) /\ Chg (fun k => k = cb) w wr from
    ⟨⟨Kx,hKx,hKxc,fun k => by rw [hcnt,doneN_all g left x.names k hl0]⟩,hch⟩)
   clear hrg hKx hKxc hcnt hch hl0 hrlt
   go_wp2_with fail
   go_ret
   exact ⟨rfl,HF.out.1,HF.out.2⟩
  ·intro xk cv kl y ps w1 cnt1 hkey hlk hRc hat hrg1 hlt1 hg1 hs1 hen
   obtain ⟨s,rfl,rfl,hgs⟩:=entry_ofS (y:=(y,ps)) hkey hRc hat
   rw [vals_get] at hgs
   obtain ⟨kk,hkk,rfl⟩:=Option.map_eq_some_iff.1 hgs
   have hmem:=mem_of_getK hkk
   obtain ⟨hf0,hk0,y2,hy2,hdp⟩:=HP.out.1 _ hmem
   simp only at hk0 hy2 hdp
   have hc1 : Chg (fun k => k = r0) wr w1:=⟨hg1.os,hg1.tape,hg1.output,hg1.size,fun k hk hne => hg1.block k hk (fun e => hne (by injection e))⟩
   have hr0:=HR0.out.1
   obtain ⟨hcb,hGl⟩:=HC.out
   have hcbl:=HB.out.2.1.lt
   have hcw1 : Chg (fun k => k = cb) w w1:=hch.trans hc1 (fun k hk e => by omega)
   have hbw1 : Below w0.heap.size w0 w1:=HB.out.1.trans (hcw1.below HB.out.1.size (fun k _ e => by omega))
   have hK1 : MapAt numS Tryz.prog TI64 w1 cb (vals cval Kx):=hKx.same numS (hc1.block cb hKx.lt (by omega))
   have hT1:=HT.out.1.below hbw1
   have hki:=(HT.out.2.nd kk y2 hy2).1
   have c0:=hT1.cell0
   have hh2:=hT1.hit2 hy2 (by omega)
   have hlk1:=cnt_look hK1 kk (by omega)
   have hKl : Kx.length <= 100000:=by
    have:=rising_len (A:=Kx) (n:=c + 1) (by
     have:=hK1.rising
     unfold vals at this
     rw [List.pairwise_map] at this
     exact this) (fun p hp => by have:=hKxc p hp; omega)
    omega
   obtain ⟨m1,hm1⟩:=qnm (cntK Kx kk + 1)
   have hst : ∀ k,doneN g (fun z => left z && !z.sameKey (strS.lit s)) x.names k = doneN g left x.names k + (g (s,kk)).count k:=fun k => doneN_step g left k s kk x.names HP.out.2.1 hmem hlk
   have hdl : ∀ k,doneN g (fun z => left z && !z.sameKey (strS.lit s)) x.names k <= (x.names.flatMap g).count k:=fun k => doneN_le g _ x.names k
   have hgc : ∀ k,(g (s,kk)).count k = (if kk = k then 1 else 0) + (subN (cntN T (f - 1)) T kk).count k:=fun k => by
    rw [HP.out.2.2.1]
    show List.count k (kk :: subN (cntN T (f - 1)) T kk) = _
    rw [List.count_cons]
    by_cases e : kk = k
    ·simp [e]; omega
    ·simp [e]
   have hm1l : m1 <= 1000000:=by
    have h1:=hst kk
    have h2:=hdl kk
    have h3:=HL.out.1 kk
    have h4:=hgc kk
    rw [if_pos rfl] at h4
    rw [hm1,hcnt]
    omega
   have e1 : IntKind.i64.wrap ((cntK Kx kk : Int) + 1) = (m1 : Int):=by rw [IntWalk.i64_in _ (by omega)]; omega
   obtain ⟨w2,hr2,hM2,ht2⟩:=hK1.put numS dkeyed cmap_ty (by rw [vals_len]; omega) (dkey kk (by omega)) (.int .i64 (m1 : Int))
   have ev:=vals_put numS cval Kx kk m1
   have hM2' : MapAt numS Tryz.prog TI64 w2 cb (vals cval (putK numS kk m1 Kx)):=by rw [<- ev]; exact hM2
   have hc2:=turned_chg ht2
   have hcw2 : Chg (fun k => k = cb) w w2:=hcw1.trans hc2 (fun k hk e => e)
   have hbw2 : Below w0.heap.size w0 w2:=HB.out.1.trans (hcw2.below HB.out.1.size (fun k _ e => by omega))
   have hT2:=HT.out.1.below hbw2
   obtain ⟨_,v2,mm2,hz2,_⟩:=hT2.item kk y2 hy2
   obtain ⟨_,q1,_⟩:=item_cells hz2
   have hlk2:=cnt_look hM2' kk (by omega)
   rw [show cntK (putK numS kk m1 Kx) kk = m1 by rw [cntK_put,if_pos rfl]] at hlk2
   have hrg2:=hrg1.kept hc2.toGrown (by intro e; injection e with e; omega) (by intro e; injection e with e; omega)
   have hcK : ∀ k,cntK (putK numS kk m1 Kx) k = cntK K k + doneN g left x.names k + (if kk = k then 1 else 0):=fun k => by
    rw [cntK_put]
    by_cases e : k = kk
    ·subst e; rw [if_pos rfl,if_pos rfl,hm1,hcnt]
    ·rw [if_neg e,if_neg (fun e' => e e'.symm),hcnt]; omega
   have hkc2:=keys_put Kx kk m1 c hKxc hki
   obtain ⟨kd,hkd⟩:=qnm y2.n.kind
   rw [<- hkd] at q1
   have HRR:=qh (aI hrg (aI hrg2 (aI hM2' (aI hkc2 (aI hcw2 (aI hlt1 (aI hs1 hrlt)))))))
   have hrl2 : r0 < w2.heap.size:=by have:=hc2.size; omega
   have HF0:=qh (aI hf0 (aI hrl2 hm1))
   have HST:=qh (aI hst (aI hdl (aI hgc (aI hcK hbw2))))
   have HKD:=qh (aI hkd (aI hy2 hdp))
   have hk0i : ((kk : Int) == 0) = false:=by rw [beq_eq_false_iff_ne]; omega
   have hd8 : ((d : Int) == 8) = false:=by rw [beq_eq_false_iff_ne]; have:=HDP.out; omega
   obtain ⟨cx,hcx⟩:=qnm (cntK Kx kk)
   rw [<- hcx] at hlk1 e1
   unfold nval at hen ⊢
   clear hrg hrg1 hg1 hs1 hlt1 hat hRc hgs hkey hlk hkk hmem hf0 hk0 hy2 hdp hc1 hr0 hcb hGl hcbl hcw1 hbw1 hK1 hT1 hki hKl hm1 hst hdl hgc ev hM2 hM2' hc2 ht2 hcw2 hbw2 hT2 hz2 hrg2 hcK hkc2 hkd hKx hKxc hcnt hch hrlt hcx hrl2
   by_cases hk2 : kd = 2
   ·subst hk2
    obtain ⟨f',hf'⟩ : ∃ f',f = f' + 1:=⟨f - 1,by have:=HF0.out.1; omega⟩
    have hff : f - 1 = f':=by omega
    obtain ⟨hst,hdl,hgc,hcK,hbw2⟩:=HST.out
    obtain ⟨_,_,hM2,hkc2,_⟩:=HRR.out
    obtain ⟨hkd,hy2,hdp⟩:=HKD.out
    have hsub : subN (cntN T (f - 1)) T kk = cntN T f' kk:=by
     unfold subN
     rw [hy2,hff]
     exact if_pos hkd.symm
    rw [hsub] at hgc
    have hsum : ∀ k,cntK (putK numS kk m1 Kx) k + (cntN T f' kk).count k = cntK K k + doneN g (fun z => left z && !z.sameKey (strS.lit s)) x.names k:=fun k => by
     rw [hcK,hst,hgc]; omega
    have HCALL:=qh (HP.out.2.2.2 f' hf' kk (putK numS kk m1 Kx) w2 hbw2 hM2 hkc2 (hdp hkd.symm f' hf') (fun k => by rw [hsum]; have:=hdl k; have:=HL.out.1 k; omega) (fun k y h1 h2 => by rw [hsum]; have:=hdl k; have:=HL.out.2 k y h1 h2; omega))
    obtain ⟨d2,hd2⟩:=qnm (8 - f')
    rw [<- hd2] at HCALL
    have e4 : IntKind.i64.wrap ((d : Int) + 1) = (d2 : Int):=by have:=HDP.out; rw [IntWalk.i64_in _ (by omega)]; omega
    have e5 : ¬ (1 : Int) < (m1 : Int):=by
     have h1:=HL.out.2 kk y2 hy2 hkd.symm
     have h2:=hsum kk
     have h3:=hdl kk
     rw [cntK_put,if_pos rfl] at h2
     omega
    have HSM:=qh hsum
    clear hff hst hdl hgc hcK hbw2 hM2 hkc2 hkd hy2 hdp hsub hsum hd2 hf'
    go_wp2_with (at_mapUpdate; refine wpList_mapput rfl _ _ _ _ (.inl rfl) _ _ _ rfl rfl rfl hr2 ?_)
    refine HCALL.out.mono ?_
    rintro e w3 ⟨rfl,⟨K3,hM3,hkc3,hcn3⟩,hc3⟩
    have HF3:=qh (aI hM3 (aI hkc3 (aI hcn3 hc3)))
    clear hM3 hkc3 hcn3 hc3
    go_wp2_with fail
    go_roundw
    case rel =>
     obtain ⟨_,hrg2,_,_,hcw2,_⟩:=HRR.out
     obtain ⟨hM3,hkc3,hcn3,hc3⟩:=HF3.out
     have hne : G i ≠ cb:=by have:=HC.out; omega
     have hner : r0 ≠ cb:=by have:=HB.out.2.1.lt; have:=HR0.out.1; omega
     refine ⟨_,cnt1,K3,hrg2.kept hc3.toGrown (by intro e; injection e with e; exact hne e) (by intro e; injection e with e; exact hner e),hM3,hkc3,fun k => by rw [hcn3,HSM.out],hcw2.two hc3,Nat.lt_of_lt_of_le HF0.out.2.1 hc3.size⟩
    case measure =>
     obtain ⟨hrg,hrg2,_,_,_,hlt1,_,_⟩:=HRR.out
     obtain ⟨_,_,_,hc3⟩:=HF3.out
     have hne : G i ≠ cb:=by have:=HC.out; omega
     have hner : r0 ≠ cb:=by have:=HB.out.2.1.lt; have:=HR0.out.1; omega
     have hrg3:=hrg2.kept hc3.toGrown (by intro e; injection e with e; exact hne e) (by intro e; injection e with e; exact hner e)
     rw [hrg3.left_eq,hrg.left_eq]
     omega
   ·have hk2b : (kd == 2) = false:=by rw [beq_eq_false_iff_ne]; exact hk2
    have HK2:=qh hk2
    clear hk2
    go_wp2_with (at_mapUpdate; refine wpList_mapput rfl _ _ _ _ (.inl rfl) _ _ _ rfl rfl rfl hr2 ?_)
    go_roundw
    case rel =>
     obtain ⟨_,hrg2,hM2,hkc2,hcw2,_,hs1,hrlt⟩:=HRR.out
     obtain ⟨hst,_,hgc,hcK,_⟩:=HST.out
     refine ⟨_,cnt1,_,hrg2,hM2,hkc2,fun k => ?_,hcw2,HF0.out.2.1⟩
     rw [hst,hgc,hcK]
     have : subN (cntN T (f - 1)) T kk = []:=by
      unfold subN
      rw [HKD.out.2.1]
      exact if_neg (by rw [<- HKD.out.1]; exact HK2.out)
     rw [this]
     simp
     omega
    case measure =>
     obtain ⟨hrg,hrg2,_,_,_,hlt1,_,_⟩:=HRR.out
     rw [hrg2.left_eq,hrg.left_eq]
     omega
theorem links_any (h : TreeIn w0 L B t mb F G T) (ok : TrOk c T) (hc : c <= 60000) (hcb : w0.heap.size <= cb) : ∀ (f : Nat),f <= 8 -> LinksC w0 t cb c T f
 | 0,hf => links_step h ok hc hcb 0 hf (fun f' e => by omega)
 | f + 1,hf => links_step h ok hc hcb (f + 1) hf (fun f' e => by cases e; exact links_any h ok hc hcb f (by omega))
end
section
open Go.RowKit Go.ChangeMaps Go.MapKept Go.Maps
structure TrRight (T : Tr) : Prop where
 deep : Deep T 8 0
 few : ∀ k,(cntN T 8 0).count k <= 60000
 one : ∀ k y,getK k T = some y -> y.n.kind = 2 -> (if k = 0 then 1 else 0) + (cntN T 8 0).count k <= 1
 links : ∀ k y,getK k T = some y -> (((if k = 0 then 1 else 0) + (cntN T 8 0).count k : Nat) : Int) = y.n.links
 open0 : ∀ k y,getK k T = some y -> y.n.links = 0 -> y.n.closed = false
variable {L B t mb c : Nat} {F G : Nat -> Nat} {T : Tr} {w : World}
theorem grown_drew0 (w : World) : w.grownBy w.drew none:=⟨rfl,rfl,rfl,Nat.le_refl _,fun _ _ _ => rfl⟩
theorem cntK_one (k : Nat) : cntK [(0,1)] k = if k = 0 then 1 else 0:=by
 unfold cntK getK
 by_cases h : k = 0
 ·subst h; rfl
 ·have : ¬ 0 = k:=fun e => h e.symm
  simp [h,this]
theorem tright_any (h : TreeIn w L B t mb F G T) (ok : TrOk c T) (hc : c <= 60000) (hr : TrRight T) :
  Calls Tryz.prog 274 #[.pointer (some ⟨t,0,none⟩)] w fun e w' => e = .returned (.bool true) /\ Below w.heap.size w w':=by
 obtain ⟨x,hx,hkd,_⟩:=hr.deep.dir
 have c0:=h.cell0
 have hhit:=h.hit2 hx (by omega)
 rw [show ((0 : Nat) : Int) = 0 from rfl] at hhit
 obtain ⟨_,v,m,h2,_,_,_⟩:=h.item 0 x hx
 obtain ⟨_,d1,_⟩:=item_cells h2
 rw [hkd] at d1
 have hlen:=map_len h.map T.length (vals_len _ _)
 have hl64:=ok.len
 obtain ⟨n,hn⟩:=qnm T.length
 rw [<- hn] at hlen hl64
 -- the counts
 obtain ⟨w1,hw1⟩:=qnm (w.alloc (.map #[] 0))
 have hb1:=qba hw1
 have hm1 : MapAt numS Tryz.prog TI64 w1 w.heap.size (vals cval []):=by rw [hw1]; exact MapAt.made numS w
 obtain ⟨w2,hr2,hM2,ht2⟩:=hm1.put numS dkeyed cmap_ty (by rw [vals_len]; simp) (dkey 0 (by omega)) (.int .i64 1)
 have hc2:=turned_chg ht2
 have hM2' : MapAt numS Tryz.prog TI64 w2 w.heap.size (vals cval [(0,1)]):=hM2
 have hb2 : Below w.heap.size w w2:=hb1.trans (hc2.below hb1.size (fun k _ e => by omega))
 have hlk:=(links_any (cb:=w.heap.size) h ok hc (Nat.le_refl _) 8 (Nat.le_refl _) 0 [(0,1)] w2 hb2 hM2' (fun p hp => by simp at hp; subst hp; omega) hr.deep (fun k => by rw [cntK_one]; have:=hr.few k; split <;> omega) (fun k y h1 h2 => by rw [cntK_one]; exact hr.one k y h1 h2))
 rw [show ((0 : Nat) : Int) = 0 from rfl] at hlk
 have HT:=qh (aI h (aI ok (aI hr hn)))
 have HW:=qh (aI hw1 (aI hb2 h.mge))
 obtain ⟨cb,hcb⟩:=qnm w.heap.size
 rw [<- hcb] at hr2 hlk
 have HLK:=qh hlk
 have HCB:=qh hcb
 clear h ok hr h2 hx hkd hm1 hM2 hM2' hc2 ht2 hb2 hb1 hw1 hn hcb hlk
 go_enter Tryz.func274,Tryz.ntmps274
 go_upto_region 4 with fail
 go_upto_region 5 with (first
  | (rw [run_makeMap])
  | (rw [<- HW.out.1]; rw [<- HCB.out])
  | (refine wpList_mapput rfl _ _ _ _ (.inr rfl) _ _ _ rfl rfl rfl hr2 ?_))
 go_wp2_with fail
 refine HLK.out.mono ?_
 rintro e w3 ⟨rfl,⟨K3,hM3,hkc3,hcn3⟩,hc3⟩
 obtain ⟨_,hb2,hmb⟩:=HW.out
 have hcbe:=HCB.out
 have hb3 : Below w.heap.size w w3:=hb2.trans (hc3.below hb2.size (fun k _ e => by rw [e,<- hcbe]; omega))
 have hT3:=HT.out.1.below hb3
 have c0:=hT3.cell0
 have HMP:=qh hT3.map
 have HV:=qh (show n = (vals (ival F) T).length from by rw [vals_len]; exact HT.out.2.2.2)
 have hcn : ∀ k,cntK K3 k = (if k = 0 then 1 else 0) + (cntN T 8 0).count k:=fun k => by rw [hcn3,cntK_one]
 have hmb3 : mb < w.heap.size:=HT.out.1.map.lt
 have H3:=qh (aI hM3 (aI hcn (aI hb3 hmb3)))
 clear hhit hlen hl64 d1 hr2 HLK hM3 hkc3 hcn3 hc3 hb2 hmb hcbe hb3 hT3 hcn hmb3
 go_wp2_with (first
  | (at_range; refine wpList_range_own _ rfl _ 186 rfl TI64 _ dkeyed ikeyed_ty RH mb n _ rfl (by rw [HV.out]; exact HMP.out) ?_; intro wa hrg0 hg0 hs0)
  | fail)
 obtain ⟨r0,hr0⟩:=qnm w3.heap.size
 rw [<- hr0] at hrg0 ⊢
 have HR0:=qh (aI hr0 (aI hg0 hs0))
 have HRG0:=qh hrg0
 clear hr0 hg0 hs0 hrg0 c0
 go_frame
 go_loopw [6,7] (fun _ _ wx => ∃ (left : Lit -> Bool) (cnt : Nat),wx.ranges Tryz.prog TI64 RH mb r0 n (mapK numS (vals (ival F) T)) left cnt /\ MapAt numS Tryz.prog TI64 wx cb (vals cval K3) /\ Below w.heap.size w wx /\ r0 < wx.heap.size)
  (fun _ _ wx => wx.rangeLeft mb r0)
 case atStart =>
  obtain ⟨hr0,hg0,hs0⟩:=HR0.out
  obtain ⟨hM3,hcn,hb3,hmb3⟩:=H3.out
  have hb0 : Below w3.heap.size w3 wa:=(Below.refl _ w3).grown hg0 (Nat.le_refl _) (fun k hk => by cases hk)
  exact ⟨_,_,HRG0.out,hM3.below numS hb0,hb3.trans (hb0.mono hb3.size),by omega⟩
 case round =>
  obtain ⟨left,cnt,hrg,hKx,hbx,hrlt⟩:=hrel
  clear HRG0
  go_wp2_with (first
   | (at_next; refine wpList_next_ranges _ rfl _ rfl TI64 dkeyed RH (Value.int .i64) (fun v => v) (fun key kl hk => by obtain ⟨x,rfl,_⟩:=Maps.keyOf_int_inv Tryz.underlying3 hk; exact ⟨x,rfl⟩) (fun v _ _ => ⟨v,rfl⟩) mb r0 n _ _ _ rfl hrg ?_ ?_)
   | fail)
  ·intro _ hl0
   have HF:=qh hbx
   clear hrg hKx hbx hl0 hrlt
   go_wp2_with fail
   go_ret
   exact ⟨rfl,HF.out⟩
  ·intro xk cv kl y ps w4 cnt1 hkey hlk hRc hat hrg1 hlt1 hg1 hs1 hen
   obtain ⟨i,rfl,rfl,hgi⟩:=entry_of (y:=(y,ps)) hkey hRc hat
   rw [vals_get] at hgi
   obtain ⟨y2,hy2,rfl⟩:=Option.map_eq_some_iff.1 hgi
   have hc1 : Chg (fun k => k = r0) wr w4:=⟨hg1.os,hg1.tape,hg1.output,hg1.size,fun k hk hne => hg1.block k hk (fun e => hne (by injection e))⟩
   obtain ⟨hM3,hcn,hb3,hmb3⟩:=H3.out
   have hr0:=HR0.out.1
   have hcbe:=HCB.out
   have hcbl:=hM3.lt
   have hbw4 : Below w.heap.size w w4:=hbx.trans (hc1.below hbx.size (fun k _ e => by have:=hb3.size; omega))
   have hK4 : MapAt numS Tryz.prog TI64 w4 cb (vals cval K3):=hKx.same numS (hc1.block cb hKx.lt (by omega))
   have hT4:=HT.out.1.below hbw4
   have hii:=(HT.out.2.1.nd i y2 hy2).1
   have hlki:=cnt_look (hK4.kept numS (grown_drew0 w4) (by simp)) i (by omega)
   obtain ⟨_,v2,mm2,hz2,_⟩:=hT4.item i y2 hy2
   obtain ⟨q0,q1,q2,q3,q4,q5,q6,q7⟩:=item_cells hz2
   have hlinks:=HT.out.2.2.1.links i y2 hy2
   rw [<- hcn] at hlinks
   have hop0:=HT.out.2.2.1.open0 i y2 hy2
   rw [<- hlinks] at q2
   obtain ⟨lk,hlkk⟩:=qnm (cntK K3 i)
   rw [<- hlkk] at q2 hlki hlinks
   obtain ⟨cl,hcl⟩:=qnm y2.n.closed
   rw [<- hcl] at q5 hop0
   have hop : lk = 0 -> cl = false:=fun h => hop0 (by rw [<- hlinks,h]; rfl)
   have HRR:=qh (aI hrg (aI hrg1 (aI hK4 (aI hbw4 (aI hlt1 (aI hs1 hrlt))))))
   have HOP:=qh hop
   have hFl:=ltH hz2
   unfold ival at hen ⊢
   clear hrg hrg1 hg1 hs1 hlt1 hat hRc hgi hkey hlk hy2 hc1 hM3 hcn hb3 hmb3 hr0 hcbe hcbl hbw4 hK4 hT4 hii hz2 hlinks hop0 hlkk hcl hKx hbx hrlt q0 q1 q3 q4 q6 q7 hop
   go_upto_region 10 with fail
   have hd1 : ((lk : Int) != (lk : Int)) = false:=bne_self_eq_false _
   go_cut [73] (fun v wx => v = .bool false /\ wx = w4.drew)
   case first =>
    by_cases h0 : lk = 0
    ·obtain rfl:=HOP.out h0
     subst h0
     refine wp_region_still_tail 23 (by kernel_rfl) (by kernel_rfl) ?_
     simp only [List.take_succ_cons,List.take_zero,List.drop_succ_cons,List.drop_zero]
     repeat still_step
     refine wpStill_nil ?_
     go_wp2_with fail
     go_meet
     exact ⟨rfl,rfl⟩
    ·have h1 : ((lk : Int) == 0) = false:=by rw [beq_eq_false_iff_ne]; omega
     refine wp_region_held_drew (S:=(fun w' => w'.cell? ⟨F i,2,none⟩ = some (.int .i64 (lk : Int)) /\ w'.cell? ⟨F i,5,none⟩ = some (.bool cl) /\ (Instr.lookup 381 (.map (some cb)) (.int .i64 (i : Int)) false).run Tryz.prog w' = .ok (.int .i64 (lk : Int)) w')) (by kernel_rfl) ?_ (fun hHeld => ?_)
     ·exact ⟨q2,q5,hlki⟩
     refine qth 0 50 ?_
     simp only [qz0,qz1]
     refine qth 1 51 ?_
     simp only [qz0,qz1]
     refine held_take (i:=2) (v:=?_) 52 rfl (by kernel_rfl) (by kernel_rfl) (by kernel_rfl) (fun _ _ _ h => h) rfl (by assumption) (Or.inl ⟨by rfl,?_⟩) ?_
     rotate_left
     ·intro w hSw; (try dsimp only at hSw); have hlk3:=hSw.2.2; go_simp; (try with_reducible rfl)
     simp only [List.set_cons_zero,List.set_cons_succ]
     refine qth 3 53 ?_
     simp only [qz0,qz1]
     refine qth 4 54 ?_
     simp only [qz0,qz1]
     refine qth 5 55 ?_
     simp only [qz0,qz1]
     refine qth 6 56 ?_
     simp only [qz0,qz1]
     refine qth 7 57 ?_
     simp only [qz0,qz1]
     refine qth 8 58 ?_
     simp only [qz0,qz1]
     refine qth 9 59 ?_
     simp only [qz0,qz1]
     refine qth 10 60 ?_
     simp only [qz0,qz1]
     refine qth 11 61 ?_
     simp only [qz0,qz1]
     refine qth 12 62 ?_
     simp only [qz0,qz1]
     refine qth 13 63 ?_
     simp only [qz0,qz1]
     refine qth 14 64 ?_
     simp only [qz0,qz1]
     refine qth 15 65 ?_
     simp only [qz0,qz1]
     refine qth 16 66 ?_
     simp only [qz0,qz1]
     refine held_take (i:=17) (v:=undef) 67 rfl (by kernel_rfl) (by kernel_rfl) (by kernel_rfl) (fun _ _ _ h => h) rfl (by assumption) (Or.inr ⟨by rfl,rfl⟩) ?_
     simp only [List.set_cons_zero,List.set_cons_succ]
     refine held_take (i:=18) (v:=undef) 68 rfl (by kernel_rfl) (by kernel_rfl) (by kernel_rfl) (fun _ _ _ h => h) rfl (by assumption) (Or.inr ⟨by rfl,rfl⟩) ?_
     simp only [List.set_cons_zero,List.set_cons_succ]
     refine held_take (i:=19) (v:=undef) 69 rfl (by kernel_rfl) (by kernel_rfl) (by kernel_rfl) (fun _ _ _ h => h) rfl (by assumption) (Or.inr ⟨by rfl,rfl⟩) ?_
     simp only [List.set_cons_zero,List.set_cons_succ]
     refine held_take (i:=20) (v:=undef) 70 rfl (by kernel_rfl) (by kernel_rfl) (by kernel_rfl) (fun _ _ _ h => h) rfl (by assumption) (Or.inr ⟨by rfl,rfl⟩) ?_
     simp only [List.set_cons_zero,List.set_cons_succ]
     refine held_take (i:=21) (v:=undef) 71 rfl (by kernel_rfl) (by kernel_rfl) (by kernel_rfl) (fun _ _ _ h => h) rfl (by assumption) (Or.inr ⟨by rfl,rfl⟩) ?_
     simp only [List.set_cons_zero,List.set_cons_succ]
     refine qth 22 72 ?_
     simp only [qz0,qz1]
     refine qth 23 73 ?_
     simp only [qz0,qz1]
     refine wpAnyH_done (by kernel_rfl) ?_ _
     clear hHeld
     go_wp2_with fail
     go_meet
     exact ⟨rfl,rfl⟩
   case rest =>
    obtain ⟨rfl,rfl⟩:=hcut
    go_wp2_with fail
    go_roundw
    case rel =>
     obtain ⟨_,hrg1,hK4,hbw4,_,hs1,hrlt⟩:=HRR.out
     exact ⟨_,cnt1,hrg1.kept (grown_drew0 w4) (by simp) (by simp),hK4.kept numS (grown_drew0 w4) (by simp),hbw4.drew,by show r0 < w4.heap.size; omega⟩
    case measure =>
     obtain ⟨hrg,hrg1,_,_,hlt1,_⟩:=HRR.out
     have hrgd:=hrg1.kept (grown_drew0 w4) (by simp) (by simp)
     rw [hrgd.left_eq,hrg.left_eq]
     omega
end
end Go.Proofs.YtabdcphioccgnaaGreatDoor
