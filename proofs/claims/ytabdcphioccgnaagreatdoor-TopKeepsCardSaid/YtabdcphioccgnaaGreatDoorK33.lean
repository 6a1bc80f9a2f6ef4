/- TreeLoad; StLoad. -/
import Derived.Test.YtabdcphioccgnaaGreatDoorK13
import Derived.Test.YtabdcphioccgnaaGreatDoorK25
import Derived.Test.YtabdcphioccgnaaGreatDoorK32
set_option maxRecDepth 100000
set_option maxHeartbeats 8000000
namespace Go.Proofs.YtabdcphioccgnaaGreatDoor
section
open Go.RowKit Go.ChangeMaps Go.MapKept Go.Maps
structure TrGood (c : Nat) (T : Tr) : Prop where
 ok : TrOk c T
 right : TrRight T
 it : ∀ p ∈ T,ItOk p.2
 rise : T.Pairwise (fun p q => p.1 < q.1)
variable {L B t mb c : Nat} {F G : Nat -> Nat} {T : Tr} {w : World}
theorem putN_snoc (k : Nat) (v : It) (L : Tr) (h : ∀ p ∈ L,p.1 < k) : putK numS k v L = L ++ [(k,v)]:=by
 have hf : L.filter (fun p => !decide (p.1 = k)) = L:=List.filter_eq_self.2 (fun p hp => by
  have h1:=h p hp
  have : p.1 ≠ k:=by omega
  simp [this])
 unfold putK
 rw [hf]
 clear hf
 induction L with
 | nil => rfl
 | cons y r ih =>
  have h1:=h y (List.mem_cons_self ..)
  have e : insK numS (k,v) (y :: r) = y :: insK numS (k,v) r:=by
   show (if numS.lt k y.1 then _ else _) = _
   rw [show numS.lt k y.1 = false from decide_eq_false (by omega)]
   rfl
  rw [e,ih (fun p hp => h p (List.mem_cons_of_mem _ hp))]
  rfl
theorem take_riseN {l : Tr} (h : l.Pairwise (fun p q => p.1 < q.1)) {j : Nat} (hj : j < l.length) : (∀ p ∈ l.take j,p.1 < (l[j]'hj).1):=by
 intro p hp
 obtain ⟨i,hi,rfl⟩:=List.getElem_of_mem hp
 rw [List.getElem_take]
 rw [List.length_take] at hi
 exact List.pairwise_iff_getElem.1 h i j (by omega) hj (by omega)
theorem ItAt.base {L' B g nb : Nat} {x : It} (h : ItAt w L B g nb x) (hL : L' <= L) : ItAt w L' B g nb x:=by
 obtain ⟨h1,v,m,h2,h3,h4,h5⟩:=h
 exact ⟨h1,v,m,h2,h3.base hL,h4,h5⟩
theorem load_put {w1 w : World} {id g nb : Nat} {x : It} (h1 : TreeIn w1 L B t mb F G T) (h : TreeIn w L B t mb F G T) (hI : ItAt w L w1.heap.size g nb x) (hnew : getK id T = none) (hid : id <= 1000000) (hlen : T.length <= 100000) :
  ∃ w',(Instr.mapUpdate 186 (.map (some mb)) (.int .i64 (id : Int)) (.pointer (some ⟨g,0,none⟩))).run Tryz.prog w = .ok () w' /\
   TreeIn w' L B t mb (upd F id g) (upd G id nb) (putK numS id x T) /\ w.mapTurned w' mb:=by
 obtain ⟨w',hr,hM,ht⟩:=h.map.put numS dkeyed ikeyed_ty (by rw [vals_len]; omega) (dkey id (by omega)) (.pointer (some ⟨g,0,none⟩))
 have hc:=turned_chg ht
 have hmlt:=h1.map.lt
 have hge:=hI.1
 have hnb : x.n.kind = 2 -> w1.heap.size <= nb:=fun hk => by
  obtain ⟨_,v,m,_,_,h4,_⟩:=hI
  exact (h4 hk).2.1
 refine ⟨w',hr,TreeIn.addItem h hc ?_ (fun j y hy => ?_) (fun hk => ⟨?_,fun j y hy hyk => ?_⟩) ?_,ht⟩
 ·have h1tge:=h1.tge
  have h1lt:=h1.lt
  exact (hI.chg hc (fun k _ e C hC => by
   subst e
   obtain ⟨es,cl,hm,_⟩:=h.map
   rw [hm] at hC; injection hC with hC; cases hC) (by omega) (fun hk => by have:=hnb hk; omega)).weaken (by omega)
 ·have:=h1.ltF hy; omega
 ·have:=hnb hk; omega
 ·have:=h1.ltG hy hyk; have:=hnb hk; omega
 ·have e1 : vals (ival F) T = vals (ival (upd F id g)) T:=vals_congr (fun k v hk => by
   unfold ival upd
   rw [if_neg (fun e => by rw [e,hnew] at hk; cases hk)]) h.ne
  have e2 : Value.pointer (some ⟨g,0,none⟩) = ival (upd F id g) id x:=by unfold ival upd; rw [if_pos rfl]
  rw [e1,e2,vals_put] at hM
  exact hM
theorem reader_alien {P q : Nat} {rb : Option Nat} {W : World} {X : List UInt8} (h : RC P q rb W X) : Alien W q:=by
 obtain ⟨_,a,cap,hz,_⟩:=h.rd
 exact ⟨fun C ty fr hC => by rw [hz] at hC; injection hC with hC; injection hC with _ hC; subst hC; exact ⟨by decide,by decide,by decide⟩,fun es cl hC => by rw [hz] at hC; injection hC with hC; cases hC⟩
def lastId (l : Tr) : Int:=(l.getLast?.map fun p => (p.1 : Int)).getD (-1)
theorem lastId_snoc (l : Tr) (p : Nat × It) : lastId (l ++ [p]) = (p.1 : Int):=by simp [lastId]
def itsB (l : Tr) : List UInt8:=(l.map fun p => itBytes p.2).flatten
theorem itsB_cons (p : Nat × It) (l : Tr) : itsB (p :: l) = itBytes p.2 ++ itsB l:=by simp [itsB]
theorem tload_any (a : Option Addr) (len cap : Nat) (w : World) (hg : TrGood c T) (hc : c <= 60000) (hB : Bs w a len cap (treeBytes T)) (hl : len <= big) :
  Calls Tryz.prog 251 #[.slice a len cap] w fun e w' => ∃ t,e = .returned (.tuple #[.pointer (some ⟨t,0,none⟩),.int .i64 0]) /\ TreeAt w' w.heap.size w.heap.size t T /\ Below w.heap.size w w':=by
 have hT64:=hg.ok.len
 have HG:=qh hg
 have HN:=qh (rc_new a len cap _ w hB hl)
 obtain ⟨n,hn⟩:=qnm T.length
 rw [<- hn] at hT64
 have HNN:=qh hn
 clear hB hg hn
 go_enter Tryz.func251,Tryz.ntmps251
 go_wp2_with fail
 refine HN.out.mono ?_
 rintro e w1 ⟨q,rb,rfl,hR1,hb1⟩
 have HQ1:=qh (aI hR1.qlt hR1.rlt)
 obtain ⟨hHq,_⟩:=hR1.rd
 have hba0:=((Ext.refl w1).alloc (.map #[] 0)).alloc (.cells #[.map (some w1.heap.size)] TTree)
 have hN:=heap_alloc_new (w1.alloc (.map #[] 0)) (.cells #[.map (some w1.heap.size)] TTree)
 have hM0:=(MapAt.made numS (P:=Tryz.prog) (k:=TI64) w1).below numS ((Below.refl _ _).alloc (Nat.le_refl _) (.cells #[.map (some w1.heap.size)] TTree))
 rw [World.size_alloc] at hN
 have hT0 : TreeIn ((w1.alloc (.map #[] 0)).alloc (.cells #[.map (some w1.heap.size)] TTree)) w.heap.size w1.heap.size (w1.heap.size + 1) w1.heap.size (fun _ => 0) (fun _ => 0) []:=by
  refine ⟨by omega,Nat.le_refl _,hN,hM0,fun i x hx => ?_,fun i x hx => ?_,fun i j x y hx => ?_,fun i j x y hx => ?_⟩ <;> simp [getK] at hx
 obtain ⟨w2,hw2⟩:=qnm ((w1.alloc (.map #[] 0)).alloc (.cells #[.map (some w1.heap.size)] TTree))
 rw [<- hw2] at hba0 hT0
 have hR2:=hR1.below hba0.1
 have e0 : treeBytes T = be n 2 ++ itsB T:=by rw [HNN.out]; rfl
 rw [e0] at hR2
 have HT2:=qh (aI hT0 (aI (hb1.trans (hba0.1.mono hb1.size)) hHq))
 have HS2:=qh (rc_short n hR2 (by omega))
 obtain ⟨t2,ht2⟩:=qnm (w1.heap.size + 1)
 obtain ⟨m2,hm2⟩:=qnm w1.heap.size
 have HW2:=qh (aI hw2 (aI ht2 (aI hm2 hb1.size)))
 clear hR1 hb1 hba0 hN hM0 hT0 hR2 hw2 ht2 hm2 e0 HN hHq
 go_upto_region 3 with (rw [run_makeMap])
 rw [<- HW2.out.1]
 rw [<- HW2.out.2.1]
 go_wp2_with fail
 refine HS2.out.mono ?_
 rintro e w3 ⟨rfl,hR3,hc3⟩
 obtain ⟨hT2,hbw2,hHq⟩:=HT2.out
 obtain ⟨_,ht2,hm2,_⟩:=HW2.out
 rw [<- ht2,<- hm2] at hT2
 have hql:=HQ1.out.1
 have hT3 : TreeIn w3 w.heap.size w1.heap.size t2 m2 (fun _ => 0) (fun _ => 0) []:=by
  refine ⟨by have:=hT2.tge; omega,by omega,(hc3.block t2 hT2.lt (by omega)).trans hT2.cel,hT2.map.same numS (hc3.block m2 hT2.map.lt (by omega)),fun i x hx => ?_,fun i x hx => ?_,fun i j x y hx => ?_,fun i j x y hx => ?_⟩ <;> simp [getK] at hx
 have hbw3 : Below w.heap.size w w3:=hbw2.trans (hc3.below hbw2.size (fun k _ e => by omega))
 have H3:=qh (aI hR3 (aI hT3 hbw3))
 clear hR3 hc3 hT2 hbw2 ht2 hm2 hql hT3 hbw3 HT2 HS2
 go_wp2_with fail
 go_loopw [6,7,8,16] (fun l _ _ i wr => ∃ (j : Nat) (F G : Nat -> Nat),j <= n /\ i = .int .i64 (j : Int) /\ l = .int .i64 (lastId (T.take j)) /\ RC w.heap.size q rb wr (itsB (T.drop j)) /\ TreeIn wr w.heap.size w1.heap.size t2 m2 F G (T.take j) /\ Below w.heap.size w wr) (fun _ _ _ i _ => n - (intOf i).toNat)
 case atStart =>
  obtain ⟨hR3,hT3,hbw3⟩:=H3.out
  exact ⟨0,_,_,Nat.zero_le _,rfl,rfl,by simpa using hR3,hT3,hbw3⟩
 case round =>
  obtain ⟨j,F,G,hj,rfl,rfl,hR,hT,hbw⟩:=hrel
  clear H3
  by_cases hlt : j < n
  ·have hjl : j < T.length:=by rw [<- HNN.out]; exact hlt
   have hdr:=List.drop_eq_getElem_cons hjl
   have htk:=List.take_append_getElem hjl
   have hit:=HG.out.it _ (List.getElem_mem hjl)
   have hris:=take_riseN HG.out.rise hjl
   have hgk:=getK_of_mem (HG.out.rise.imp (fun {a b} hab => Nat.ne_of_lt hab)) (k:=(T[j]'hjl).1) (v:=(T[j]'hjl).2) (List.getElem_mem hjl)
   generalize T[j]'hjl = p at hdr htk hit hris hgk
   obtain ⟨id,x⟩:=p
   simp only at hit hris hgk
   obtain ⟨hid,hnid,_⟩:=HG.out.ok.nd id x hgk
   rw [hdr,itsB_cons] at hR
   have hrd:=hR.rd.1
   have HAL:=qh (reader_alien hR)
   have HRD:=qh (tread_any x hit hR)
   have hput:=putN_snoc id x (T.take j) hris
   rw [htk] at hput
   have hlast : lastId (T.take (j + 1)) = (id : Int):=by rw [<- htk,lastId_snoc]
   obtain ⟨la,hla⟩:=qnm (lastId (T.take j))
   have hlt2 : la < (id : Int):=by
    rw [hla]
    unfold lastId
    cases hq : (T.take j).getLast? with
    | none => simp; omega
    | some y => have:=hris y (List.mem_of_getLast? hq); simp; omega
   rw [<- hla]
   have hnone : getK id (T.take j) = none:=by
    unfold getK
    rw [List.find?_eq_none.2 (fun p hp => by have:=hris p hp; simp; omega)]
    rfl
   have htl : (T.take j).length <= 100000:=by rw [List.length_take]; omega
   have HP:=qh (aI hput (aI hlast (aI hnone (aI htl hid))))
   have HWj:=qh (aI hT (aI hbw hrd))
   have e1 : (0 : Int) <= (j : Int):=by omega
   have e2 : (j : Int) < (n : Int):=by omega
   have hle : ¬ ((id : Int) <= la):=by omega
   obtain ⟨j2,hj2⟩:=qnm (j + 1)
   have e3 : IntKind.i64.wrap ((j : Int) + 1) = (j2 : Int):=by rw [IntWalk.i64_in _ (by omega)]; omega
   have HJ:=qh hj2
   have HID:=qh hnid
   clear hjl hdr htk hit hris hgk hR hput hlast hla hlt2 hnone htl hT hbw hrd hj2 hj hid hnid
   go_wp2_with fail
   refine HRD.out.mono ?_
   rintro e w4 ⟨g,nb,rfl,hI4,hR4,hc4⟩
   obtain ⟨hT,hbw,hrd⟩:=HWj.out
   have hT4 : TreeIn w4 w.heap.size w1.heap.size t2 m2 F G (T.take j):=hT.alien HW2.out.2.2.2 hc4 (fun k hk e => .inr (by subst e; exact HAL.out))
   have hbw4 : Below w.heap.size w w4:=hbw.trans (hc4.below hbw.size (fun k _ e => by omega))
   obtain ⟨hput,hlast,hnone,htl,hid⟩:=HP.out
   obtain ⟨w5,hr5,hT5,ht5⟩:=load_put hT hT4 (hI4.base hbw.size) hnone (by omega) htl
   have hc5:=turned_chg ht5
   rw [hput] at hT5
   have hm1:=hT.mge
   have hR5:=hR4.chg hc5 (fun k hk e => by
    rcases hk with hk | hk
    ·have:=HQ1.out.1; omega
    ·have:=HQ1.out.2 k hk; omega)
   have hbw5 : Below w.heap.size w w5:=hbw4.trans (hc5.below hbw4.size (fun k _ e => by have:=HW2.out.2.2.2; omega))
   have H5:=qh (aI hR5 (aI hT5 hbw5))
   have c0:=hT4.cell0
   obtain ⟨_,v4,mm4,hz4,_⟩:=hI4
   obtain ⟨d0,_⟩:=item_cells hz4
   rw [HID.out] at d0
   clear hR4 hc4 hT hbw hrd hT4 hbw4 hput hlast hnone htl hid hT5 ht5 hc5 hm1 hR5 hbw5 hz4 HRD HWj
   go_wp2_with (at_mapUpdate; refine wpList_mapput rfl _ _ _ _ (.inl rfl) _ _ _ rfl rfl rfl hr5 ?_)
   go_roundw
   case rel =>
    obtain ⟨hR5,hT5,hbw5⟩:=H5.out
    have hj2:=HJ.out
    refine ⟨j2,upd F id g,upd G id nb,by omega,rfl,?_,?_,?_,hbw5⟩
    ·rw [hj2,HP.out.2.1]
    ·rw [hj2]; exact hR5
    ·rw [hj2]; exact hT5
   case measure =>
    have hj2:=HJ.out
    show n - (j2 : Int).toNat < n - (j : Int).toNat
    omega
  ·obtain rfl : j = n:=by omega
   clear hlt
   have hd : T.drop j = []:=List.drop_eq_nil_of_le (by rw [HNN.out]; exact Nat.le_refl _)
   have ht : T.take j = T:=List.take_of_length_le (by rw [HNN.out]; exact Nat.le_refl _)
   rw [hd] at hR
   rw [ht] at hT ⊢
   have HE:=qh (rc_end hR)
   rw [if_pos (show itsB [] = [] from rfl)] at HE
   have HRT:=qh (tright_any hT HG.out.ok hc HG.out.right)
   have HF:=qh (aI hT hbw)
   clear hR hT hbw hd ht
   go_wp2_with fail
   refine HE.out.mono ?_
   rintro e w' ⟨rfl,rfl⟩
   go_wp2_with fail
   refine HRT.out.mono ?_
   rintro e w6 ⟨rfl,hb6⟩
   obtain ⟨hT,hbw⟩:=HF.out
   have HFF:=qh (show TreeAt w6 w.heap.size w.heap.size t2 T /\ Below w.heap.size w w6 from ⟨⟨m2,F,G,(hT.below hb6)⟩ |> fun h => TreeAt.weaken h HW2.out.2.2.2,hbw.trans (hb6.mono hbw.size)⟩)
   clear hT hbw hb6
   go_wp2_with fail
   go_ret2
   exact ⟨_,rfl,HFF.out.1,HFF.out.2⟩
end
section
open Go.RowKit Go.ChangeMaps Go.MapKept
structure Sn0 (S : SnS) : Prop where
 no : S.l = []
 lo : 1 <= S.next
 hi : S.next <= 1099511627776
 last : S.last.length = if S.next = 1 then 0 else 32
theorem Sn0.len {S : SnS} (h : Sn0 S) : S.last.length <= 32:=by rw [h.last]; split <;> omega
theorem cright_any (n : Nat) (w : World) (h : n <= 1099511627776) : Calls Tryz.prog 136 #[.int .u64 (n : Int)] w fun e w' => e = .returned (.bool true) /\ w = w':=by
 have e1 : (n : Int) <= 1099511627776:=by omega
 go_enter Tryz.func136,Tryz.ntmps136
 go_wp2_with fail
 go_ret
 exact ⟨rfl,rfl⟩
theorem rc_own {q H : Nat} {W w' : World} {v : Value} {xs : List UInt8} (ho : Own W H v xs) (hq : q < H) (hc : Chg (fun k => k = q) W w') : Own w' H v xs:=hc.own ho (fun k hk e => by have:=ho.ge k hk; omega)
theorem snload0_any (a : Option Addr) (len cap : Nat) (w : World) (S : SnS) (h : Sn0 S) (hB : Bs w a len cap (snBytes0 S)) (C : Nat) :
  Calls Tryz.prog 252 #[.slice a len cap] w fun e w' => ∃ sn,e = .returned (.tuple #[.pointer (some ⟨sn,0,none⟩),.int .i64 0]) /\ SnapsAt w' w.heap.size w.heap.size C sn S /\ Below w.heap.size w w':=by
 have hll:=h.len
 have hlen : len <= 1000:=by
  have:=hB.1
  rw [<- this]
  unfold snBytes0
  have:=lenBytes_le S.last
  simp [be_length]; omega
 have HN:=qh (rc_new a len cap _ w hB (by unfold big; omega))
 have HS:=qh h
 obtain ⟨nx,hnx⟩:=qnm S.next
 have hlo:=h.lo
 have hhi:=h.hi
 rw [<- hnx] at hlo hhi
 have HNX:=qh hnx
 clear hB hlen h hnx
 go_enter Tryz.func252,Tryz.ntmps252
 go_wp2_with fail
 refine HN.out.mono ?_
 rintro e w1 ⟨q,rb,rfl,hR1,hb1⟩
 have hR1' : RC w.heap.size q rb w1 (be nx 8 ++ (lenBytes S.last ++ (be 0 1 ++ []))):=by
  have e : snBytes0 S = be nx 8 ++ (lenBytes S.last ++ (be 0 1 ++ [])):=by unfold snBytes0; rw [HNX.out]; simp
  rw [e] at hR1
  exact hR1
 have HL:=qh (rc_long nx hR1' (by omega))
 have HB1:=qh (aI hb1 hR1.rd.1)
 clear hR1 hb1 hR1' HN
 go_wp2_with fail
 refine HL.out.mono ?_
 rintro e w2 ⟨rfl,hR2,hc2⟩
 have HY:=qh (rc_bytes S.last hR2 (by omega))
 have hR2q:=hR2.qlt
 have hb2 : Below w.heap.size w w2:=HB1.out.1.trans (hc2.below HB1.out.1.size (fun k _ e => by have:=HB1.out.2; omega))
 have HB2:=qh (aI hb2 hR2q)
 clear hR2 hc2 hb2 HL hR2q
 go_wp2_with fail
 refine HY.out.mono ?_
 rintro e w3 ⟨⟨v3,rfl,ho3⟩,hR3,hc3⟩
 have HZ:=qh (rc_byte 0 hR3 (by omega))
 obtain ⟨ln,hln⟩ : ∃ ln,S.last.length = ln:=⟨_,rfl⟩
 obtain ⟨a3,k3,rfl,_⟩:=ho3.bsn hln
 have hb3 : Below w.heap.size w w3:=HB2.out.1.trans (hc3.below HB2.out.1.size (fun k _ e => by have:=HB1.out.2; omega))
 have HB3:=qh (aI hb3 (aI ho3 hln))
 have hln32 : ln <= 32:=by omega
 clear ho3 hR3 hc3 hb3 HY hln
 go_wp2_with fail
 refine HZ.out.mono ?_
 rintro e w4 ⟨rfl,hR4,hc4⟩
 obtain ⟨hb3,ho3,hln⟩:=HB3.out
 have hb4 : Below w.heap.size w w4:=hb3.trans (hc4.below hb3.size (fun k _ e => by have:=HB1.out.2; omega))
 have ho4:=(rc_own ho3 HB2.out.2 hc4).base HB2.out.1.size
 have HE4:=qh (rc_end (L:=[]) (hR4.below ((Below.refl _ _).alloc (Nat.le_refl _) (.cells #[.slice none 0 0,.int .i64 (nx : Int),.slice a3 ln k3] TSnaps))))
 have hba:=(Below.refl w4.heap.size w4).alloc (Nat.le_refl _) (.cells #[.slice none 0 0,.int .i64 (nx : Int),.slice a3 ln k3] TSnaps)
 have HF:=qh (show SnapsAt (w4.alloc (.cells #[.slice none 0 0,.int .i64 (nx : Int),.slice a3 ln k3] TSnaps)) w.heap.size w.heap.size C w4.heap.size S /\ Below w.heap.size w (w4.alloc (.cells #[.slice none 0 0,.int .i64 (nx : Int),.slice a3 ln k3] TSnaps)) from by
  refine ⟨⟨hb4.size,_,_,[],?_,ho4.below hba,by rw [HS.out.no]; rfl,by rw [HS.out.no]; exact World.ownsRow_nil _ _ _ _,fun i h1 => by rw [HS.out.no] at h1; simp at h1⟩,hb4.trans (hba.mono hb4.size)⟩
  rw [<- HNX.out]
  exact heap_alloc_new w4 _)
 have e1 : IntKind.i64.wrap (nx : Int) = (nx : Int):=IntWalk.i64_in _ (by omega)
 have hlast:=HS.out.last
 rw [hln,<- HNX.out] at hlast
 have HLA:=qh hlast
 clear hb3 ho3 hln hb4 ho4 hba hR4 hc4 HZ hlast hlo hhi hll
 obtain ⟨M,hM⟩:=qnm w4.heap.size
 rw [<- hM] at HF
 have HM:=qh hM
 clear hM
 go_upto_region 5 with fail
 rw [<- HM.out]
 obtain ⟨w5,hw5⟩:=qnm (w4.alloc (.cells #[.slice none 0 0,.int .i64 (nx : Int),.slice a3 ln k3] TSnaps))
 rw [<- hw5] at HF HE4 ⊢
 clear hw5
 have hlo : ¬ (nx : Int) < 1:=by have:=HS.out.lo; have:=HNX.out; omega
 have hhi : ¬ (1099511627776 : Int) < (nx : Int):=by have:=HS.out.hi; have:=HNX.out; omega
 by_cases h1 : nx = 1
 ·have hln : ln = 0:=by have h:=HLA.out; rwa [if_pos h1] at h
  subst h1
  subst hln
  go_wp2_with fail
  refine wp_loop_rounds 1 ?_
  rw [rounds_succ]
  go_wp2_with fail
  refine HE4.out.mono ?_
  rintro e w' ⟨rfl,rfl⟩
  go_wp2_with fail
  go_ret2
  exact ⟨_,rfl,HF.out.1,HF.out.2⟩
 ·have hln : ln = 32:=by have h:=HLA.out; rwa [if_neg h1] at h
  subst hln
  have e4 : ((nx : Int) == 1) = false:=by rw [beq_eq_false_iff_ne]; omega
  go_wp2_with fail
  refine wp_loop_rounds 1 ?_
  rw [rounds_succ]
  go_wp2_with fail
  refine HE4.out.mono ?_
  rintro e w' ⟨rfl,rfl⟩
  go_wp2_with fail
  go_ret2
  exact ⟨_,rfl,HF.out.1,HF.out.2⟩
theorem SnapsAt.any0 {w : World} {L L' B B' C C' sn : Nat} {S : SnS} (h : SnapsAt w L B C sn S) (h0 : S.l = []) (hL : L' <= L) (hB : B' <= B) : SnapsAt w L' B' C' sn S:=by
 obtain ⟨h1,lv,av,hs,h2,h3,h4,h5,h6⟩:=h.weaken hB
 exact ⟨h1,lv,av,hs,h2,h3.base hL,h4,h5,fun i i1 => by rw [h0] at i1; simp at i1⟩
theorem TreeAt.base {w : World} {L L' B t : Nat} {T : Tr} (h : TreeAt w L B t T) (hL : L' <= L) : TreeAt w L' B t T:=by
 obtain ⟨mb,F,G,h⟩:=h
 exact ⟨mb,F,G,{ h with item:=fun i x hx => (h.item i x hx).base hL }⟩
theorem TreeAt.read {w w' : World} {L B t P q : Nat} {rb : Option Nat} {T : Tr} {X : List UInt8} (h : TreeAt w L B t T) (hLB : L <= B) (hR : RC P q rb w X) (hc : Chg (fun k => k = q) w w') : TreeAt w' L B t T:=by
 obtain ⟨mb,F,G,h⟩:=h
 exact ⟨mb,F,G,h.alien hLB hc (fun k hk e => .inr (by subst e; exact reader_alien hR))⟩
theorem stload_any (a : Option Addr) (len cap : Nat) (w : World) (T : Tr) (S : SnS) (now c : Nat) (hg : TrGood c T) (hc : c <= 60000) (hsh : Shut0 T) (h : Sn0 S) (hn : now <= 1099511627776) (hB : Bs w a len cap (stBytes T S now)) (hl : len <= big) :
  Calls Tryz.prog 209 #[.slice a len cap] w fun e w' => ∃ s,e = .returned (.tuple #[.pointer (some ⟨s,0,none⟩),.int .i64 0]) /\ StAt w' w.heap.size w.heap.size w.heap.size s ⟨T,S,now,fun _ => none⟩ /\ Below w.heap.size w w':=by
 have hxl:=hB.1
 obtain ⟨N,hN⟩:=qnm ((treeBytes T).length)
 obtain ⟨M,hM⟩:=qnm ((snBytes0 S).length)
 have e0 : stBytes T S now = be now 8 ++ (be N 8 ++ (treeBytes T ++ snBytes0 S)):=by unfold stBytes; rw [<- hN]
 have hNl : N <= len:=by rw [<- hxl,e0]; simp [<- hN]; omega
 have HN:=qh (rc_new a len cap _ w hB hl)
 rw [e0] at HN
 have hNb : N <= big:=by omega
 have hNi : N <= 140737488355328:=by unfold big at hNb; omega
 have HX:=qh (aI hg (aI hsh (aI h (aI hN hM))))
 have HNB:=qh hNb
 clear hg hsh h hB hl hxl e0 hN hM hNl hNb
 go_enter Tryz.func209,Tryz.ntmps209
 go_wp2_with fail
 refine HN.out.mono ?_
 rintro e w1 ⟨q,rb,rfl,hR1,hb1⟩
 have HL:=qh (rc_long now hR1 (by omega))
 have HB1:=qh (aI hb1 hR1.rd.1)
 clear hR1 hb1 HN
 go_wp2_with fail
 refine HL.out.mono ?_
 rintro e w2 ⟨rfl,hR2,hc2⟩
 have HY:=qh (rc_long N hR2 (by omega))
 have hb2 : Below w.heap.size w w2:=HB1.out.1.trans (hc2.below HB1.out.1.size (fun k _ e => by have:=HB1.out.2; omega))
 have HB2:=qh hb2
 clear hR2 hc2 hb2 HL
 go_wp2_with fail
 refine HY.out.mono ?_
 rintro e w3 ⟨rfl,hR3,hc3⟩
 have hb3 : Below w.heap.size w w3:=HB2.out.trans (hc3.below HB2.out.size (fun k _ e => by have:=HB1.out.2; omega))
 have HB3:=qh (aI hb3 hR3.qlt)
 have HLF:=qh (rc_left hR3)
 have HRW:=qh (rc_raw (treeBytes T) (N : Int) hR3 (by rw [HX.out.2.2.2.1]))
 obtain ⟨LN,hLN⟩:=qnm ((treeBytes T ++ snBytes0 S).length)
 rw [<- hLN] at HLF
 have hLN2 : N <= LN:=by rw [hLN,List.length_append,HX.out.2.2.2.1]; omega
 have hLNb : LN <= 140737488355328:=by have:=hR3.len; rw [<- hLN] at this; unfold big at this; omega
 have e1 : ¬ (LN : Int) < (N : Int):=by omega
 have e2 : IntKind.u64.wrap (LN : Int) = (LN : Int):=IntWalk.u64_in _ (by omega)
 have e3 : IntKind.i64.wrap (N : Int) = (N : Int):=IntWalk.i64_in _ (by omega)
 clear hR3 hc3 hb3 HY hLN hLN2 hLNb
 go_wp2_with fail
 refine (cright_any now w3 hn).mono ?_
 rintro e w' ⟨rfl,rfl⟩
 go_wp2_with fail
 refine HLF.out.mono ?_
 rintro e w' ⟨rfl,rfl⟩
 go_wp2_with fail
 refine HRW.out.mono ?_
 rintro e w4 ⟨⟨v4,rfl,ho4⟩,hR4,hc4⟩
 obtain ⟨a4,k4,rfl,hB4⟩:=ho4.bsn (n:=N) HX.out.2.2.2.1.symm
 have HTL:=qh (tload_any a4 N k4 w4 HX.out.1 hc hB4 HNB.out)
 have hb4 : Below w.heap.size w w4:=HB3.out.1.trans (hc4.below HB3.out.1.size (fun k _ e => by have:=HB1.out.2; omega))
 have HB4:=qh (aI hb4 (aI hB4 hR4))
 clear ho4 hB4 hR4 hc4 hb4 HRW HLF e1 e2
 go_wp2_with fail
 refine HTL.out.mono ?_
 rintro e w5 ⟨t,rfl,hT5,hb5⟩
 have hCM:=Commits.shut hT5 HX.out.1.ok hc hb5.size HX.out.2.1
 have HCM:=qh (hCM w5 (Below.refl _ _))
 have HB5:=qh (aI hT5 hb5)
 clear hT5 hb5 hCM HTL
 go_wp2_with fail
 refine HCM.out.mono ?_
 rintro e w6 ⟨t6,rfl,⟨mb6,F6,G6,hT6⟩,hb6⟩
 have HTS:=qh (tsave_any hT6 HX.out.1.ok hc)
 have HB6:=qh hb6
 clear hT6 hb6 HCM
 go_wp2_with fail
 refine HTS.out.mono ?_
 rintro e w7 ⟨v7,rfl,ho7,hb7⟩
 obtain ⟨a7,k7,rfl,hB7⟩:=ho7.bsn (n:=N) HX.out.2.2.2.1.symm
 have hb47 : Below w4.heap.size w4 w7:=HB5.out.2.trans ((HB6.out.trans (hb7.mono HB6.out.size)).mono HB5.out.2.size)
 have HEQ:=qh (beq_any a7 a4 N N k7 k4 _ _ w7 hB7 (HB4.out.2.1.below hb47))
 rw [decide_eq_true rfl] at HEQ
 have HB7:=qh hb47
 have HB57:=qh (show Below w5.heap.size w5 w7 from HB6.out.trans (hb7.mono HB6.out.size))
 clear ho7 hB7 hb47 hb7 HTS
 go_wp2_with fail
 refine HEQ.out.mono ?_
 rintro e w' ⟨rfl,rfl⟩
 have hR7:=HB4.out.2.2.below HB7.out
 have hR7' : RC w.heap.size q rb w7 (snBytes0 S ++ []):=by rw [List.append_nil]; exact hR7
 have HLF:=qh (rc_left hR7)
 have HRW:=qh (rc_raw (snBytes0 S) (M : Int) hR7' (by rw [HX.out.2.2.2.2]))
 rw [<- HX.out.2.2.2.2] at HLF
 have hq7:=hR7.qlt
 have HQ7:=qh hq7
 clear hR7 hR7' HEQ hq7
 go_wp2_with fail
 refine HLF.out.mono ?_
 rintro e w' ⟨rfl,rfl⟩
 go_wp2_with fail
 refine HRW.out.mono ?_
 rintro e w8 ⟨⟨v8,rfl,ho8⟩,hR8,hc8⟩
 obtain ⟨a8,k8,rfl,hB8⟩:=ho8.bsn (n:=M) HX.out.2.2.2.2.symm
 have HSL:=qh (snload0_any a8 M k8 w8 S HX.out.2.2.1 hB8 0)
 have HB8:=qh hc8
 clear ho8 hB8 hR8 hc8 HLF HRW
 go_wp2_with fail
 refine HSL.out.mono ?_
 rintro e w9 ⟨sn,rfl,hS9,hb9⟩
 obtain ⟨w10,hw10⟩:=qnm (w9.alloc (.cells #[.pointer (some ⟨t,0,none⟩),.pointer (some ⟨sn,0,none⟩),.int .u64 (now : Int),.pointer none,.pointer none,.pointer none,.pointer none,.pointer none,.pointer none,.pointer none,.pointer none] TState))
 have hba:=qba hw10
 have hbn : w10.heap[w9.heap.size]? = some (.cells #[.pointer (some ⟨t,0,none⟩),.pointer (some ⟨sn,0,none⟩),.int .u64 (now : Int),.pointer none,.pointer none,.pointer none,.pointer none,.pointer none,.pointer none,.pointer none,.pointer none] TState (0,0)):=by rw [hw10]; exact heap_alloc_new w9 _
 have hb4:=HB4.out.1
 have hb7 : Below w.heap.size w w7:=hb4.trans (HB7.out.mono hb4.size)
 have hc8:=HB8.out
 have hb8 : Below w.heap.size w w8:=hb7.trans (hc8.below hb7.size (fun k _ e => by have:=HB1.out.2; omega))
 have hb9':=hb9
 have hb9 : Below w.heap.size w w9:=hb8.trans (hb9.mono hb8.size)
 have HF:=qh (show StAt w10 w.heap.size w.heap.size w.heap.size w9.heap.size ⟨T,S,now,fun _ => none⟩ /\ Below w.heap.size w w10 from by
  have hT7:=HB5.out.1.below HB57.out
  have hT8:=hT7.read (Nat.le_refl _) (HB4.out.2.2.below HB7.out) hc8
  have hT10:=((hT8.below hb9').below hba).base hb4.size
  have hS10:=(hS9.below (C:=0) (by omega) hba).any0 (L':=w.heap.size) (B':=w.heap.size) (C':=w.heap.size) HX.out.2.2.1.no hb8.size hb8.size
  refine ⟨⟨t,sn,fun _ => none,hb9.size,hbn,hT10.weaken hb4.size,hS10,fun _ _ _ => rfl,fun i o hi ho => by simp at ho⟩,hb9.trans (hba.mono hb9.size)⟩)
 obtain ⟨s9,hs9⟩:=qnm w9.heap.size
 rw [<- hs9] at HF
 have HW:=qh (aI hw10 hs9)
 clear hw10 hba hbn hb4 hb7 hc8 hb8 hb9' hb9 hS9 hs9
 go_wp2_with (rw [<- HW.out.1]; rw [<- HW.out.2])
 go_ret2
 exact ⟨_,rfl,HF.out.1,HF.out.2⟩
end
end Go.Proofs.YtabdcphioccgnaaGreatDoor
