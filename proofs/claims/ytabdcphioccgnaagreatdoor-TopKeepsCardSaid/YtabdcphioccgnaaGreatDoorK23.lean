/- TreeSave; TreeSave2; StateAt; SnapNew. -/
import Derived.Test.YtabdcphioccgnaaGreatDoorK22
set_option maxRecDepth 100000
set_option maxHeartbeats 8000000
namespace Go.Proofs.YtabdcphioccgnaaGreatDoor
section
open Go.RowKit Go.ChangeMaps Go.MapKept
def nmBytes (l : List (List UInt8 × Nat)) : List UInt8:=(l.map fun p => lenBytes p.1 ++ be p.2 2).flatten
def itBytes (x : It) : List UInt8:=lenBytes x.n.bytes ++ (lenBytes x.b ++ (be x.names.length 2 ++ nmBytes x.names))
def treeBytes (T : Tr) : List UInt8:=be T.length 2 ++ (T.map fun p => itBytes p.2).flatten
theorem lenBytes_len (b : List UInt8) : (lenBytes b).length <= 65537:=by
 unfold lenBytes
 rw [List.length_append,be_length,List.length_take]
 omega
theorem lenBytes_le (b : List UInt8) : (lenBytes b).length <= b.length + 2:=by
 unfold lenBytes
 rw [List.length_append,be_length,List.length_take]
 omega
theorem nmBytes_len (l : List (List UInt8 × Nat)) (h : ∀ p ∈ l,p.1.length <= 16) : (nmBytes l).length <= l.length * 20:=by
 induction l with
 | nil => simp [nmBytes]
 | cons p r ih =>
  have h1:=ih (fun q hq => h q (List.mem_cons_of_mem _ hq))
  have h2:=lenBytes_le p.1
  have h3:=h p (List.mem_cons_self ..)
  unfold nmBytes at h1 ⊢
  rw [List.map_cons,List.flatten_cons,List.length_append,List.length_append,be_length,List.length_cons]
  omega
theorem nmBytes_take (l : List (List UInt8 × Nat)) (j : Nat) (hj : j < l.length) : nmBytes (l.take (j + 1)) = nmBytes (l.take j) ++ lenBytes l[j].1 ++ be l[j].2 2:=by
 unfold nmBytes
 rw [List.take_succ_eq_append_getElem hj,List.map_append,List.flatten_append]
 simp
theorem name_look1 {w : World} {nb : Nat} {l : List (List UInt8 × Nat)} (h : MapAt strS Tryz.prog TStr w nb (vals nval l)) (s : List UInt8) (k : Nat) (hk : getK s l = some k) (hs : s.length <= 1000000) :
  (Instr.lookup 190 (.map (some nb)) (.string (strOf s)) false).run Tryz.prog w = .ok (.int .i64 (k : Int)) w:=by
 have:=h.look strS skeyed nkeyed_ty (zero_int w) (skey s (by unfold maxLen; omega))
 rw [vals_get,hk] at this
 exact this
theorem len_nilmap (w : World) : ∀ ty,(Builtin.len_ #[190] ty #[.map none]).run Tryz.prog w = .ok (.int .i64 0) w:=fun ty => by
 simp [Builtin.len_,run_underlying Tryz.underlying190]
 rfl
theorem item_names {w : World} {x : It} {mo : Option Nat} {B nb : Nat} (h4 : x.n.kind = 2 -> Value.map mo = .map (some nb) /\ B <= nb /\ MapAt strS Tryz.prog TStr w nb (vals nval x.names)) (h5 : x.n.kind ≠ 2 -> Value.map mo = .map none /\ x.names = []) (hl : x.names.length <= 60000) :
  (∀ ty,(Builtin.len_ #[190] ty #[.map mo]).run Tryz.prog w = .ok (.int .i64 (x.names.length : Int)) w) /\
  Calls Tryz.prog 178 #[.func (.func 227) #[] #[.pointer (some ⟨w.heap.size,0,none⟩)]] (w.alloc (.cells #[.map mo] 190)) (fun e w' => ∃ a c,e = .returned (.slice a x.names.length c) /\ Ss w' a x.names.length c (x.names.map (·.1)) /\ (∀ ad,a = some ad -> w.heap.size <= ad.block) /\ Below w.heap.size w w') /\
  (∀ p ∈ x.names,p.1.length <= 1000000 -> (Instr.lookup 190 (.map mo) (.string (strOf p.1)) false).run Tryz.prog w = .ok (.int .i64 (p.2 : Int)) w):=by
 by_cases hk : x.n.kind = 2
 ·obtain ⟨e,_,hM⟩:=h4 hk
  rw [e]
  refine ⟨fun ty => ?_,?_,fun p hp hs => ?_⟩
  ·have:=hM.len strS nkeyed_ty ty
   rw [vals_len] at this
   exact this
  ·refine (ssorted_any nb x.names w hM (by omega)).mono ?_
   rintro e w' ⟨v,rfl,ho,hb⟩
   obtain ⟨a,c,rfl,hS⟩:=ho.ss (n:=x.names.length) (by rw [List.length_map])
   exact ⟨a,c,rfl,hS,fun ad had => ho.blk ad.block (by rw [had]; rfl),hb⟩
  ·have hne : x.names.Pairwise (fun p q => p.1 ≠ q.1):=hM.srising.imp (fun {a b} hab e => by rw [e] at hab; have:=before_lt _ _ hab; exact absurd this (List.lt_irrefl _))
   exact name_look1 hM p.1 p.2 (getK_of_mem hne hp) hs
 ·obtain ⟨e,hn⟩:=h5 hk
  rw [e,hn]
  refine ⟨fun ty => len_nilmap w ty,?_,fun p hp => by simp at hp⟩
  refine (ssorted_nil w).mono ?_
  rintro e w' ⟨rfl,hb⟩
  exact ⟨none,0,rfl,Ss.nil _,fun ad had => (by cases had),hb⟩
variable {w : World} {L B t mb c : Nat} {F G : Nat -> Nat} {T : Tr}
theorem itBytes_len (x : It) (hb : x.b.length <= 4096) (hn : ∀ p ∈ x.names,p.1.length <= 16) (hl : x.names.length <= 60000) : (itBytes x).length <= 2000000:=by
 have h1:=lenBytes_le x.b
 have h2:=nmBytes_len x.names hn
 have h3:=lenBytes_le x.n.bytes
 have h4:=x.n.bytes_length
 unfold itBytes
 rw [List.length_append,List.length_append,List.length_append,be_length]
 omega
theorem TrOk.item {c : Nat} {T : Tr} (ok : TrOk c T) {w : World} {L B t mb : Nat} {F G : Nat -> Nat} (h : TreeIn w L B t mb F G T) {i : Nat} {x : It} (hx : getK i T = some x) : x.b.length <= 4096 /\ ∀ p ∈ x.names,p.1.length <= 16:=by
 obtain ⟨_,_,hok,hbl,_⟩:=ok.nd i x hx
 refine ⟨?_,fun p hp => ?_⟩
 ·have:=hok.2.2.2.2
  omega
 ·by_cases hk : x.n.kind = 2
  ·obtain ⟨_,_,hM⟩:=h.dir hx hk
   have hne : x.names.Pairwise (fun p q => p.1 ≠ q.1):=hM.srising.imp (fun {a b} hab e => by rw [e] at hab; have:=before_lt _ _ hab; exact absurd this (List.lt_irrefl _))
   exact (ok.nm i x p.1 p.2 hx (getK_of_mem hne hp)).2.2
  ·obtain ⟨_,v,m,_,_,_,h5⟩:=h.item i x hx
   rw [(h5 hk).2] at hp
   simp at hp
end
section
open Go.RowKit Go.ChangeMaps Go.MapKept
variable {w : World} {L B t mb c : Nat} {F G : Nat -> Nat} {T : Tr}
theorem itemsLen (T : Tr) (h : ∀ p ∈ T,(itBytes p.2).length <= 2000000) : (T.map fun p => itBytes p.2).flatten.length <= T.length * 2000000:=by
 induction T with
 | nil => simp
 | cons p r ih =>
  have h1:=ih (fun q hq => h q (List.mem_cons_of_mem _ hq))
  have h2:=h p (List.mem_cons_self ..)
  rw [List.map_cons,List.flatten_cons,List.length_append,List.length_cons]
  omega
theorem take_len (T : Tr) (j : Nat) (h : ∀ p ∈ T,(itBytes p.2).length <= 2000000) (hT : T.length <= 64) : (((T.take j).map fun p => itBytes p.2).flatten).length <= 128000000:=by
 have:=itemsLen (T.take j) (fun p hp => h p (List.mem_of_mem_take hp))
 rw [List.length_take] at this
 have : min j T.length <= 64:=by omega
 omega
theorem take_one (T : Tr) (j : Nat) (hj : j < T.length) : ((T.take (j + 1)).map fun p => itBytes p.2).flatten = ((T.take j).map fun p => itBytes p.2).flatten ++ itBytes T[j].2:=by
 rw [List.take_succ_eq_append_getElem hj,List.map_append,List.flatten_append]
 simp
theorem tsave_any (h : TreeIn w L B t mb F G T) (ok : TrOk c T) (hc : c <= 60000) :
  Calls Tryz.prog 103 #[.pointer (some ⟨t,0,none⟩)] w fun e w' => ∃ v,e = .returned v /\ Own w' w.heap.size v (treeBytes T) /\ Below w.heap.size w w':=by
 have hlen:=ok.len
 have HT:=qh (aI h ok)
 have hib : ∀ p ∈ T,(itBytes p.2).length <= 2000000:=fun p hp => by
  have hx:=getK_of_mem h.ne (k:=p.1) (v:=p.2) hp
  obtain ⟨h1,h2⟩:=ok.item h hx
  exact itBytes_len p.2 h1 h2 (by have:=(ok.nd _ _ hx).2.2.2.2; omega)
 have HIB:=qh hib
 have HUN:=qh h.ne
 obtain ⟨n,hn⟩:=qnm T.length
 have HN:=qh hn
 have HL:=qh (show n <= 64 by omega)
 clear h ok hib hlen hn
 go_enter Tryz.func103,Tryz.ntmps103
 go_wp2_with fail
 refine (wnew_any w).mono ?_
 rintro e w1 ⟨rfl,hW1,hb1⟩
 obtain ⟨q,hq⟩:=qnm w.heap.size
 have hI1 : WI w w.heap.size w.heap.size w1 []:=⟨(Ext.refl w).step hb1,none,hW1⟩
 have HQ:=qh hq
 rw [<- hq] at hI1 ⊢
 have hT1:=HT.out.1.below hb1
 have c0:=hT1.cell0
 have hml:=map_len hT1.map n (by rw [vals_len,HN.out])
 clear hW1 hb1 hq hT1
 go_wp2_with fail
 refine (wshort_ok n hI1 (by have:=HL.out; omega) (by unfold big; decide)).mono ?_
 rintro e w2 ⟨rfl,hI2⟩
 clear hI1 hml c0
 have HB2:=qh (show Below w.heap.size w w2 by have:=hI2.1.1; rwa [HQ.out] at this)
 have HI:=qh (ids_any (HT.out.1.below HB2.out) HT.out.2)
 go_wp2_with fail
 refine HI.out.mono ?_
 rintro e w3 ⟨v3,rfl,ho3,hb3⟩
 obtain ⟨a3,c3,rfl,hcap,hat⟩:=ho3.at (n:=n) (by rw [List.length_map]; exact HN.out.symm)
 rw [List.nil_append] at hI2
 obtain ⟨g0,hJ3,hg0,hq2⟩:=WJ.start_at hI2 hb3
 have HAT:=qh (aI hat (aI hg0 hq2))
 have HJ3:=qh hJ3
 clear ho3 hb3 hat hI2 HI hg0 hq2 hJ3 HB2
 go_wp2_with fail
 go_loopw [22] (fun k wr => ∃ j : Nat,j <= n /\ k = .int .i64 (j : Int) /\ WJ w w3 q g0 wr (be n 2 ++ ((T.take j).map fun p => itBytes p.2).flatten)) (fun k _ => n - (intOf k).toNat)
 case atStart => exact ⟨0,by omega,rfl,by simpa using HJ3.out⟩
 case round =>
  obtain ⟨j,hj,rfl,hI⟩:=hrel
  clear HJ3
  by_cases hlt : j < n
  ·obtain ⟨g,rfl,hgB,hg,hcell⟩:=HAT.out.1 (by omega)
   have hn:=HN.out
   have hL64:=HL.out
   have hjl : j < (T.map (·.1)).length:=by rw [List.length_map,<- hn]; exact hlt
   have c0:=(hI.cell hg (fun e => by have:=HAT.out.2.2; omega) (fun e => by have:=HAT.out.2.1 g e; omega)).trans (hcell j hjl)
   have hjT : j < T.length:=by omega
   have hx : getK (T.map (·.1))[j] T = some (T[j]'hjT).2:=by
    rw [List.getElem_map]
    exact getK_of_mem HUN.out (List.getElem_mem hjT)
   have hone:=take_one T j hjT
   have htl:=take_len T j HIB.out (by omega)
   generalize (T.map (·.1))[j] = i at c0 hx
   generalize (T[j]'hjT).2 = x at hx hone
   have HBW:=qh (show ∀ W (g1 : Option Nat) (w3 : World) (L : List UInt8),WJ w w3 q g1 W L -> Below w.heap.size w W from fun W g1 w3 L h => by have:=h.1.1; rwa [HQ.out] at this)
   have hbw:=HBW.out _ _ _ _ hI
   have hTr:=HT.out.1.below hbw
   obtain ⟨hi,hid,hok,hbl,hnl⟩:=HT.out.2.nd i x hx
   obtain ⟨hb4,hn16⟩:=HT.out.2.item HT.out.1 hx
   have t0:=hTr.cell0
   have hhit:=hTr.hit hx (by omega)
   obtain ⟨_,v,m,h2,h3,h4,h5⟩:=HT.out.1.item i x hx
   obtain ⟨mo,rfl⟩ : ∃ mo,m = .map mo:=by
    by_cases hk : x.n.kind = 2
    ·exact ⟨_,(h4 hk).1⟩
    ·exact ⟨_,(h5 hk).1⟩
   obtain ⟨vn,hvn⟩ : ∃ vn,x.b.length = vn:=⟨_,rfl⟩
   obtain ⟨va,vc,rfl,hVB⟩:=h3.bsn hvn
   have HCE:=qh (show ∀ W,Below w.heap.size w W -> W.heap[F i]? = some (.cells (itC x.n (.slice va vn vc) (.map mo)) TItem (0,0)) from fun W hb => (hb.block _ (Array.getElem?_eq_some_iff.1 h2).1).trans h2)
   have HNM:=qh (show ∀ W,Below w.heap.size w W -> _ from fun W hb => item_names (w:=W) (x:=x) (mo:=mo) (B:=B) (nb:=G i) (fun hk => ⟨(h4 hk).1,(h4 hk).2.1,(h4 hk).2.2.below strS hb⟩) h5 (by omega))
   obtain ⟨d0,d1,d2,d3,d4,d5,d6,d7⟩:=item_cells (HCE.out wr hbw)
   have hnk : ∀ p ∈ x.names,p.2 <= c:=fun p hp => by
    by_cases hk : x.n.kind = 2
    ·obtain ⟨_,_,hM⟩:=h4 hk
     have hne : x.names.Pairwise (fun p q => p.1 ≠ q.1):=hM.srising.imp (fun {a b} hab e => by rw [e] at hab; have:=before_lt _ _ hab; exact absurd this (List.lt_irrefl _))
     obtain ⟨⟨y,hy⟩,_⟩:=HT.out.2.nm i x p.1 p.2 hx (getK_of_mem hne hp)
     exact (HT.out.2.nd p.2 y hy).1
    ·rw [(h5 hk).2] at hp
     simp at hp
   have HXX:=qh hx
   have HX:=qh (aI hn16 (aI hnl (aI hone (aI htl hnk))))
   have HVB:=qh (aI hVB hvn)
   have HEN:=qh (nenc_ok x.n wr hok)
   unfold Nd.cells at HEN
   have e1 : (0 : Int) <= (j : Int):=by omega
   have e2 : (j : Int) < (n : Int):=by omega
   obtain ⟨j2,hj2⟩:=qnm (j + 1)
   have e3 : IntKind.i64.wrap ((j : Int) + 1) = (j2 : Int):=by rw [IntWalk.i64_in _ (by omega)]; omega
   have HJ:=qh hj2
   obtain ⟨L0,hL0⟩:=qnm (be n 2 ++ ((T.take j).map fun p => itBytes p.2).flatten)
   rw [<- hL0] at hI
   have HL0:=qh (aI hL0 (show L0.length <= 128000002 by rw [hL0,List.length_append,be_length]; omega))
   have HI:=qh hI
   clear hcell hx hjl hjT hone htl hTr hi hid hok hbl hnl hb4 hn16 h2 h3 h4 h5 hvn hVB hj2 hn hbw hL0 hI hg hgB hL64 hnk hj
   go_wp2_with fail
   refine HEN.out.mono ?_
   rintro e w4 ⟨v4,rfl,ho4,hb4⟩
   obtain ⟨a4,c4,rfl,hB4⟩:=ho4.bsn (n:=16) x.n.bytes_length
   have HW4:=qh (wbytes_j HI.out hb4 hB4 (fun _ ad had => .inr (by subst had; exact ho4.ge _ rfl)) (by have:=HL0.out.2; unfold big; omega))
   clear ho4 hb4 hB4
   go_wp2_with fail
   refine HW4.out.mono ?_
   rintro e w5 ⟨rfl,hI5⟩
   have hb5:=HBW.out _ _ _ _ hI5
   obtain ⟨_,_,_,_,_,_,d6,d7⟩:=item_cells (HCE.out w5 hb5)
   have HBL:=qh (show x.b.length <= 4096 from (HT.out.2.item HT.out.1 HXX.out).1)
   have HW5:=qh (wbytes_j hI5 (Below.refl _ _) (HVB.out.1.below hb5) (fun h0 ad had => .inl (by
    rcases HVB.out.1.2.2.2 with h1 | ⟨b,off,h1,h2,_⟩
    ·omega
    ·rw [h1] at had; injection had with had; subst had; rw [HQ.out]; exact h2)) (by
    have h1:=HL0.out.2
    have h2:=lenBytes_len x.n.bytes
    rw [List.length_append]; unfold big; omega))
   clear hI5 hb5 HW4 HI
   go_wp2_with fail
   refine HW5.out.mono ?_
   rintro e w6 ⟨rfl,hI6⟩
   have hb6:=HBW.out _ _ _ _ hI6
   obtain ⟨_,_,_,_,_,_,d6,d7⟩:=item_cells (HCE.out w6 hb6)
   obtain ⟨hlen,_,_⟩:=HNM.out w6 hb6
   obtain ⟨m,hm⟩:=qnm x.names.length
   have HM:=qh hm
   have hm6 : m <= 60000:=by have:=HX.out.2.1; omega
   rw [<- hm] at hlen
   obtain ⟨L6,hL6⟩:=qnm (L0 ++ lenBytes x.n.bytes ++ lenBytes x.b)
   rw [<- hL6] at hI6
   have HL6:=qh (aI hL6 (show L6.length <= 128000002 + 65537 + 65537 by
    have h1:=HL0.out.2
    have h2:=lenBytes_len x.n.bytes
    have h3:=lenBytes_len x.b
    rw [hL6,List.length_append,List.length_append]; omega))
   have HW6:=qh (wshort_j m hI6 (by omega) (by have:=HL6.out.2; unfold big; omega))
   clear hI6 hb6 HW5 hm hL6
   go_wp2_with fail
   refine HW6.out.mono ?_
   rintro e w7 ⟨rfl,hI7⟩
   have hb7:=HBW.out _ _ _ _ hI7
   obtain ⟨_,_,_,_,_,_,_,d7⟩:=item_cells (HCE.out w7 hb7)
   have HS7:=qh (HNM.out w7 hb7).2.1
   rw [<- HM.out] at HS7
   have HI7:=qh hI7
   clear hI7 hb7 HW6 hlen d6
   go_wp2_with fail
   refine (skeys_any mo w7).mono ?_
   rintro e w8 ⟨rfl,rfl⟩
   go_wp2_with fail
   refine HS7.out.mono ?_
   rintro e w9 ⟨a9,c9,rfl,hS9,ha9,hb9⟩
   obtain ⟨g9,hJ9,hg9,hq9,hnest⟩:=WJ.nest_at HI7.out hb9
   have hcap9:=hS9.2.1
   have hcm9 : c9 <= 9223372036854775807:=Nat.le_trans hS9.2.2.1 (by unfold maxLen; decide)
   have HS9:=qh (aI hS9 (aI hg9 (aI hq9 (aI hnest ha9))))
   have HJ9:=qh hJ9
   obtain ⟨L7,hL7⟩:=qnm (L6 ++ be m 2)
   rw [<- hL7] at HJ9
   have HL7:=qh (aI hL7 (show L7.length <= 128000002 + 65537 + 65537 + 2 by have:=HL6.out.2; rw [hL7,List.length_append,be_length]; omega))
   clear hS9 hb9 ha9 hJ9 hg9 hq9 hnest HI7 HS7 hL7
   go_wp2_with fail
   go_loopw [63] (fun k2 wi => ∃ jj : Nat,jj <= m /\ k2 = .int .i64 (jj : Int) /\ WJ w w9 q g9 wi (L7 ++ nmBytes (x.names.take jj))) (fun k2 _ => m - (intOf k2).toNat)
   case atStart => exact ⟨0,by omega,rfl,by simpa [nmBytes] using HJ9.out⟩
   case round =>
    obtain ⟨jj,hjj,rfl,hIi⟩:=hrel
    clear HJ9
    by_cases hlt2 : jj < m
    ·obtain ⟨b,off,rfl,hb,hcell⟩:=HS9.out.1.at (by omega)
     have hmm:=HM.out
     have hjl : jj < (x.names.map (·.1)).length:=by rw [List.length_map,<- hmm]; exact hlt2
     have hjn : jj < x.names.length:=by omega
     have hge:=HS9.out.2.2.2.2 _ rfl
     have c0:=(hIi.cell hb (fun e => by have:=HS9.out.2.2.1; simp only at hge; omega) (fun e => by have:=HS9.out.2.1 b e; simp only at hge; omega)).trans (hcell jj hjl)
     have hp:=List.getElem_mem hjn
     have e0 : (x.names.map (·.1))[jj] = (x.names[jj]'hjn).1:=by simp
     rw [e0] at c0
     have hone2:=nmBytes_take x.names jj hjn
     have hs16:=HX.out.1 _ hp
     have hk2:=HX.out.2.2.2.2 _ hp
     have hnl2:=nmBytes_len (x.names.take jj) (fun p hp => HX.out.1 p (List.mem_of_mem_take hp))
     have htk2 : (x.names.take jj).length <= 60000:=by rw [List.length_take]; omega
     have HLK:=qh (show ∀ W,Below w.heap.size w W -> _ from fun W hb => (HNM.out W hb).2.2 _ hp (by omega))
     generalize x.names[jj]'hjn = pr at c0 hone2 hs16 hk2 HLK
     obtain ⟨s,kk⟩:=pr
     simp only at c0 hone2 hs16 hk2 HLK
     have hcv:=run_bytes s wr
     have hbw:=convW_below wr s
     have hB:=convW_bs wr s (by unfold maxLen; omega)
     obtain ⟨cap2,hcap2⟩:=qnm (convCap wr s)
     obtain ⟨wc,hwc⟩:=qnm (convW wr s)
     rw [<- hcap2,<- hwc] at hcv hB
     rw [<- hwc] at hbw
     obtain ⟨sl,hsl⟩:=qnm s.length
     rw [<- hsl] at hcv hB
     obtain ⟨L8,hL8⟩:=qnm (L7 ++ nmBytes (x.names.take jj))
     rw [<- hL8] at hIi
     have HL8:=qh (aI hL8 (show L8.length <= 128000002 + 65537 + 65537 + 2 + 1200000 by have:=HL7.out.2; rw [hL8,List.length_append]; omega))
     have HWB:=qh (wbytes_j hIi hbw hB (fun _ ad had => .inr (by injection had with had; subst had; exact Nat.le_refl _)) (by have:=HL8.out.2; unfold big; omega))
     have f1 : (0 : Int) <= (jj : Int):=by omega
     have f2 : (jj : Int) < (m : Int):=by omega
     obtain ⟨jj2,hjj2⟩:=qnm (jj + 1)
     have f3 : IntKind.i64.wrap ((jj : Int) + 1) = (jj2 : Int):=by rw [IntWalk.i64_in _ (by omega)]; omega
     have HK2:=qh (aI hone2 (aI hjj2 (aI hjj (aI hs16 hk2))))
     clear hcell hjl hjn hp e0 hone2 hs16 hnl2 htk2 hbw hB hcap2 hwc hL8 hIi hjj2 hge hb hmm hsl hjj hk2
     go_wp2_with fail
     refine HWB.out.mono ?_
     rintro e w11 ⟨rfl,hI11⟩
     have hb11:=HBW.out _ _ _ _ hI11
     obtain ⟨_,_,_,_,_,_,_,d7⟩:=item_cells (HCE.out w11 hb11)
     have hlk:=HLK.out w11 hb11
     have HW11:=qh (wshort_j kk hI11 (by have:=HK2.out.2.2.2.2; omega) (by have h1:=HL8.out.2; have h2:=lenBytes_len s; rw [List.length_append]; unfold big; omega))
     clear hI11 hb11 HWB hcv
     go_wp2_with fail
     refine HW11.out.mono ?_
     rintro e w12 ⟨rfl,hI12⟩
     have HI12:=qh hI12
     clear hI12 HW11 hlk
     go_wp2_with fail
     go_roundw
     case rel =>
      obtain ⟨hone2,hjj2,hjj,_,_⟩:=HK2.out
      refine ⟨jj2,by omega,rfl,?_⟩
      rw [hjj2,hone2,<- List.append_assoc,<- List.append_assoc,<- HL8.out.1]
      exact HI12.out
     case measure =>
      obtain ⟨hone2,hjj2,hjj,_,_⟩:=HK2.out
      show m - (jj2 : Int).toNat < m - (jj : Int).toNat
      omega
    ·obtain rfl : jj = m:=by omega
     have hfin : L7 ++ nmBytes (x.names.take jj) = be n 2 ++ ((T.take j2).map fun p => itBytes p.2).flatten:=by
      rw [List.take_of_length_le (by rw [<- HM.out]; exact Nat.le_refl _),HL7.out.1,HL6.out.1,HL0.out.1,HJ.out,HX.out.2.2.1]
      unfold itBytes
      rw [HM.out]
      simp only [List.append_assoc]
     rw [hfin] at hIi
     have HFI:=qh (HS9.out.2.2.2.1 _ _ hIi)
     clear hlt2 hjj hfin hIi
     go_wp2_with fail
     go_roundw
     case rel => exact ⟨j2,by have:=HJ.out; omega,rfl,HFI.out⟩
     case measure =>
      have:=HJ.out
      show n - (j2 : Int).toNat < n - (j : Int).toNat
      omega
  ·obtain rfl : j = n:=by omega
   have hdn:=(show be j 2 ++ ((T.take j).map fun p => itBytes p.2).flatten = treeBytes T from by
    unfold treeBytes
    rw [HN.out,List.take_of_length_le (Nat.le_refl _)])
   rw [hdn] at hI
   have hbw:=hI.1.1
   rw [HQ.out] at hbw
   have HD:=qh (wdone_ok hI.wi (by rw [<- hdn,List.length_append,be_length]; have:=take_len T j HIB.out (by have:=HL.out; have:=HN.out; omega); unfold big; omega))
   have HBW:=qh hbw
   clear hlt hj hdn hI hbw
   go_wp2_with fail
   refine HD.out.mono ?_
   rintro e w4 ⟨da,dc,rfl,ho4,_,hI4⟩
   obtain ⟨NN,hNN⟩:=qnm ((treeBytes T).length)
   rw [<- hNN] at ho4 ⊢
   have HF:=qh (aI ho4 hI4)
   clear ho4 hI4 hNN
   go_wp2_with fail
   go_ret
   refine ⟨_,rfl,HF.out.1.base HBW.out.size,?_⟩
   have:=HF.out.2.1.1
   rwa [HQ.out] at this
end
section
open Go.RowKit Go.ChangeMaps Go.MapKept
abbrev TState : TypeId:=104
abbrev TSnaps : TypeId:=199
abbrev TOne : TypeId:=197
abbrev TOpen : TypeId:=201
structure Opn where
 wr : Bool
 id : Nat
 b : List UInt8
def OpnAt (w : World) (L g : Nat) (o : Opn) : Prop:=∃ v,w.heap[g]? = some (.cells #[.bool o.wr,.int .i64 (o.id : Int),v] TOpen (0,0)) /\ Own w L v o.b
structure Sn where
 id : Nat
 hash : List UInt8
 T : Tr
structure SnS where
 l : List Sn
 next : Nat
 last : List UInt8
def snCells (s : Sn) (h : Value × Nat) : List Value:=[.int .i64 (s.id : Int),h.1,.pointer (some ⟨h.2,0,none⟩)]
def SnapsAt (w : World) (L B C sn : Nat) (S : SnS) : Prop :=
 B <= sn /\ ∃ (lv av : Value) (hs : List (Value × Nat)),w.heap[sn]? = some (.cells #[lv,.int .i64 (S.next : Int),av] TSnaps (0,0)) /\ Own w L av S.last /\ hs.length = S.l.length /\
  w.ownsRow B TOne 3 lv S.l.length ((List.zipWith snCells S.l hs).flatten) /\
  ∀ i (h1 : i < S.l.length) (h2 : i < hs.length),Own w L hs[i].1 S.l[i].hash /\ ∃ w0 : World,w0.heap.size = C /\ Below C w0 w /\ TreeAt w0 L L hs[i].2 S.l[i].T
structure StM where
 T : Tr
 S : SnS
 now : Nat
 fds : Nat -> Option Opn
def fdV (fp : Nat -> Option Nat) (i : Nat) : Value:=.pointer ((fp i).map fun g => ⟨g,0,none⟩)
def stC (t sn now : Nat) (fp : Nat -> Option Nat) : Array Value:=#[.pointer (some ⟨t,0,none⟩),.pointer (some ⟨sn,0,none⟩),.int .u64 (now : Int),fdV fp 0,fdV fp 1,fdV fp 2,fdV fp 3,fdV fp 4,fdV fp 5,fdV fp 6,fdV fp 7]
structure StIn (w : World) (L B C s t sn : Nat) (fp : Nat -> Option Nat) (σ : StM) : Prop where
 sge : B <= s
 cel : w.heap[s]? = some (.cells (stC t sn σ.now fp) TState (0,0))
 tree : TreeAt w L B t σ.T
 snaps : SnapsAt w L B C sn σ.S
 no : ∀ i,i < 8 -> σ.fds i = none -> fp i = none
 fd : ∀ i o,i < 8 -> σ.fds i = some o -> ∃ g,fp i = some g /\ L <= g /\ OpnAt w L g o
def StAt (w : World) (L B C s : Nat) (σ : StM) : Prop:=∃ t sn fp,StIn w L B C s t sn fp σ
theorem OpnAt.below {w w' : World} {L g : Nat} {o : Opn} (h : OpnAt w L g o) (hb : Below w.heap.size w w') : OpnAt w' L g o:=by
 obtain ⟨v,h1,h2⟩:=h
 exact ⟨v,(hb.block g (Array.getElem?_eq_some_iff.1 h1).1).trans h1,h2.below hb⟩
theorem SnapsAt.below {w w' : World} {L B C sn : Nat} {S : SnS} (h : SnapsAt w L B C sn S) (hC : C <= w.heap.size) (hb : Below w.heap.size w w') : SnapsAt w' L B C sn S:=by
 obtain ⟨h0,lv,av,hs,h1,h2,h3,h4,h5⟩:=h
 refine ⟨h0,lv,av,hs,(hb.block sn (Array.getElem?_eq_some_iff.1 h1).1).trans h1,h2.below hb,h3,ownsRow_below h4 hb,fun i i1 i2 => ?_⟩
 obtain ⟨k1,w0,k2,k3,k4⟩:=h5 i i1 i2
 exact ⟨k1.below hb,w0,k2,k3.trans (hb.mono hC),k4⟩
variable {w w' : World} {L B C s t sn : Nat} {fp : Nat -> Option Nat} {σ : StM}
theorem StIn.lt (h : StIn w L B C s t sn fp σ) : s < w.heap.size:=(Array.getElem?_eq_some_iff.1 h.cel).1
theorem StIn.below (h : StIn w L B C s t sn fp σ) (hC : C <= w.heap.size) (hb : Below w.heap.size w w') : StIn w' L B C s t sn fp σ where
 sge:=h.sge
 cel:=(hb.block s h.lt).trans h.cel
 tree:=h.tree.below hb
 snaps:=h.snaps.below hC hb
 no:=h.no
 fd i o hi ho:=by obtain ⟨g,h1,h2,h3⟩:=h.fd i o hi ho; exact ⟨g,h1,h2,h3.below hb⟩
theorem StAt.below (h : StAt w L B C s σ) (hC : C <= w.heap.size) (hb : Below w.heap.size w w') : StAt w' L B C s σ:=by
 obtain ⟨t,sn,fp,h⟩:=h
 exact ⟨t,sn,fp,h.below hC hb⟩
theorem StIn.frozen (h : StIn w L B C s t sn fp σ) (hL : L <= B) : StIn w L L w.heap.size s t sn fp σ where
 sge:=Nat.le_trans hL h.sge
 cel:=h.cel
 tree:=h.tree.weaken hL
 snaps:=by
  obtain ⟨h0,lv,av,hs,h1,h2,h3,h4,h5⟩:=h.snaps
  refine ⟨Nat.le_trans hL h0,lv,av,hs,h1,h2,h3,?_,fun i i1 i2 => ?_⟩
  ·refine ⟨h4.1,?_⟩
   rcases h4.2 with h4 | ⟨g,cap,cur,h5,h6,h7⟩
   ·exact .inl h4
   ·exact .inr ⟨g,cap,cur,h5,Nat.le_trans hL h6,h7⟩
  ·obtain ⟨k1,w0,k2,k3,k4⟩:=h5 i i1 i2
   exact ⟨k1,w,rfl,Below.refl _ _,k4.below (by rw [k2]; exact k3)⟩
 no:=h.no
 fd:=h.fd
theorem StAt.frozen (h : StAt w L B C s σ) (hL : L <= B) : StAt w L L w.heap.size s σ:=by
 obtain ⟨t,sn,fp,h⟩:=h
 exact ⟨t,sn,fp,h.frozen hL⟩
def AlienS (w : World) (k : Nat) : Prop:=(∀ C ty fr,w.heap[k]? = some (.cells C ty fr) -> ty ≠ TB /\ ty ≠ TItem /\ ty ≠ TTree /\ ty ≠ TState /\ ty ≠ TSnaps /\ ty ≠ TOne /\ ty ≠ TOpen) /\ ∀ es cl,w.heap[k]? ≠ some (.map es cl)
theorem AlienS.alien {k : Nat} (h : AlienS w k) : Alien w k:=⟨fun C ty fr hC => by obtain ⟨a,b,c,_⟩:=h.1 C ty fr hC; exact ⟨a,b,c⟩,h.2⟩
theorem StIn.alien {S : Nat -> Prop} (h : StIn w L L w.heap.size s t sn fp σ) (hc : Chg S w w') (hs : ∀ k,k < w.heap.size -> S k -> k < L ∨ AlienS w k) : StIn w' L L w'.heap.size s t sn fp σ where
 sge:=h.sge
 cel:=(hc.block s h.lt (fun hS => by
  rcases hs s h.lt hS with h6 | h6
  ·have:=h.sge; omega
  ·exact (h6.1 _ _ _ h.cel).2.2.2.1 rfl)).trans h.cel
 tree:=by
  obtain ⟨mb,F,G,hT⟩:=h.tree
  exact ⟨mb,F,G,hT.alien (Nat.le_refl _) hc (fun k hk hS => (hs k hk hS).imp id AlienS.alien)⟩
 snaps:=by
  obtain ⟨h0,lv,av,hh,h1,h2,h3,h4,h5⟩:=h.snaps
  have hal : ∀ k,k < w.heap.size -> S k -> k < L ∨ Alien w k:=fun k hk hS => (hs k hk hS).imp id AlienS.alien
  refine ⟨h0,lv,av,hh,(hc.block sn (Array.getElem?_eq_some_iff.1 h1).1 (fun hS => ?_)).trans h1,h2.alien hc hal,h3,?_,fun i i1 i2 => ?_⟩
  ·rcases hs sn (Array.getElem?_eq_some_iff.1 h1).1 hS with h6 | h6
   ·omega
   ·exact (h6.1 _ _ _ h1).2.2.2.2.1 rfl
  ·refine ⟨h4.1,?_⟩
   rcases h4.2 with h4 | ⟨g,cap,cur,k5,k6,k7,k8⟩
   ·exact .inl h4
   ·refine .inr ⟨g,cap,cur,k5,k6,(hc.block g (Array.getElem?_eq_some_iff.1 k7).1 (fun hS => ?_)).trans k7,k8⟩
    rcases hs g (Array.getElem?_eq_some_iff.1 k7).1 hS with h6 | h6
    ·omega
    ·exact (h6.1 _ _ _ k7).2.2.2.2.2.1 rfl
  ·obtain ⟨k1,w0,k2,k3,k4⟩:=h5 i i1 i2
   obtain ⟨mb,F,G,hT⟩:=k4.below (w':=w) (by rw [k2]; exact k3)
   exact ⟨k1.alien hc hal,w',rfl,Below.refl _ _,mb,F,G,hT.alien (Nat.le_refl _) hc hal⟩
 no:=h.no
 fd i o hi ho:=by
  obtain ⟨g,h1,h2,v,h3,h4⟩:=h.fd i o hi ho
  refine ⟨g,h1,h2,v,(hc.block g (Array.getElem?_eq_some_iff.1 h3).1 (fun hS => ?_)).trans h3,h4.alien hc (fun k hk hS => (hs k hk hS).imp id AlienS.alien)⟩
  rcases hs g (Array.getElem?_eq_some_iff.1 h3).1 hS with h6 | h6
  ·omega
  ·exact (h6.1 _ _ _ h3).2.2.2.2.2.2 rfl
theorem StAt.alien {S : Nat -> Prop} (h : StAt w L L w.heap.size s σ) (hc : Chg S w w') (hs : ∀ k,k < w.heap.size -> S k -> k < L ∨ AlienS w k) : StAt w' L L w'.heap.size s σ:=by
 obtain ⟨t,sn,fp,h⟩:=h
 exact ⟨t,sn,fp,h.alien hc hs⟩
end
section
open Go.RowKit Go.ChangeMaps Go.MapKept
theorem info_any {i? : Option TypeInfo} {z : Value} {s b : Nat} (h : i?.map (fun i => (i.zero,i.size,i.bytes)) = some (some z,s,b)) : ∃ i,i? = some i /\ i.zero = some z /\ i.size = s /\ i.bytes = b:=by
 cases i? with
 | none => cases h
 | some i => simp at h; exact ⟨i,rfl,h.1,h.2.1,h.2.2⟩
theorem infoOne : (Tryz.prog.info? TOne).map (fun i => (i.zero,i.size,i.bytes)) = some (some (.agg #[.int .i64 0,.slice none 0 0,.pointer none]),3,40):=by kernel_rfl
theorem oclone_any {B n : Nat} {lv : Value} {xs : List Value} (w : World) (h : w.ownsRow B TOne 3 lv n xs) (hn : n <= 100000) (h1 : ∀ u ∈ xs,u.oneCell' = true) :
  Calls Tryz.prog 111 #[lv] w fun e w' => ∃ v',e = .returned v' /\ w'.ownsRow w.heap.size TOne 3 v' n xs /\ Below w.heap.size w w':=by
 obtain ⟨i,hi,hz0,hz1,hz2⟩:=info_any infoOne
 have hl:=h.1
 have hcell:=h
 rcases h.2 with ⟨rfl,h4⟩ | ⟨g,cap,cur,rfl,h5,h6,h7⟩
 ·subst h4
  have hx : xs = []:=List.length_eq_zero_iff.1 (by omega)
  subst hx
  refine (AnyE.slices_Clone_nil Tryz.cloneO 0 0 w).mono ?_
  rintro e w' ⟨rfl,hw⟩
  exact ⟨_,rfl,World.ownsRow_nil _ _ _ _,by rw [hw]; exact Below.refl _ _⟩
 ·refine (AnyE.slices_Clone Tryz.cloneO i _ 3 40 hi hz0 hz1 hz2 rfl (by decide) (fun w => Tryz.sizeOf197 w) g 0 n cap xs w hl (by unfold maxLen; omega) (by omega) (fun j u hu => ?_) h1).mono ?_
  ·have hj : j < xs.length:=by
    rcases Nat.lt_or_ge j xs.length with h | h
    ·exact h
    ·rw [List.getElem?_eq_none h] at hu; cases hu
   rw [Nat.zero_add,World.ownsRow.cellAt (size:=3) hcell j (by omega)]
   exact hu
  ·rintro e w' ⟨v',rfl,ho,_,hb⟩
   exact ⟨v',rfl,ho,hb⟩
theorem snCells_one (l : List Sn) (hs : List (Value × Nat)) (h : ∀ p ∈ hs,p.1.oneCell' = true) : ∀ u ∈ (List.zipWith snCells l hs).flatten,u.oneCell' = true:=by
 intro u hu
 obtain ⟨r,hr,hu⟩:=List.mem_flatten.1 hu
 rw [<- List.map_uncurry_zip_eq_zipWith] at hr
 obtain ⟨⟨s,p⟩,hp,rfl⟩:=List.mem_map.1 hr
 have hp2:=(List.of_mem_zip hp).2
 simp only [Function.uncurry,snCells,List.mem_cons,List.not_mem_nil,or_false] at hu
 rcases hu with rfl | rfl | rfl
 ·rfl
 ·exact h _ hp2
 ·rfl
theorem Own.oneCell {w : World} {B : Nat} {v : Value} {xs : List UInt8} (h : Own w B v xs) : v.oneCell' = true:=by
 rcases h.parts with ⟨rfl,_⟩ | ⟨g,cap,rfl,_⟩ <;> rfl
theorem ownsRow_slice {w : World} {B n size : Nat} {e : TypeId} {v : Value} {xs : List Value} (h : w.ownsRow B e size v n xs) : ∃ a b c,v = .slice a b c:=by
 rcases h.2 with ⟨rfl,_⟩ | ⟨g,cap,cur,rfl,_⟩
 ·exact ⟨_,_,_,rfl⟩
 ·exact ⟨_,_,_,rfl⟩
def noSn : SnS:=⟨[],1,[]⟩
theorem sn_new (w : World) (L B : Nat) (hB : B <= w.heap.size) (C : Nat) : SnapsAt (w.alloc (.cells #[.slice none 0 0,.int .i64 1,.slice none 0 0] TSnaps)) L B C w.heap.size noSn :=
 ⟨hB,_,_,[],heap_alloc_new w _,Own.nil _ _,rfl,World.ownsRow_nil _ _ _ _,fun i h1 => by simp [noSn] at h1⟩
theorem snew_any (w : World) (L C : Nat) :
  Calls Tryz.prog 101 #[] w fun e w' => ∃ sn,e = .returned (.pointer (some ⟨sn,0,none⟩)) /\ SnapsAt w' L w.heap.size C sn noSn /\ Below w.heap.size w w':=by
 have H:=qh (aI (sn_new w L w.heap.size (Nat.le_refl _) C) ((Below.refl w.heap.size w).alloc (Nat.le_refl _) (.cells #[.slice none 0 0,.int .i64 1,.slice none 0 0] TSnaps)))
 go_enter Tryz.func101,Tryz.ntmps101
 go_wp2_with fail
 go_ret
 exact ⟨_,rfl,H.out.1,H.out.2⟩
theorem scopy_any {w : World} {L B C sn : Nat} {S : SnS} (h : SnapsAt w L B C sn S) (hC : C <= w.heap.size) (hl : S.l.length <= 8) :
  Calls Tryz.prog 42 #[.pointer (some ⟨sn,0,none⟩)] w fun e w' => ∃ sn',e = .returned (.pointer (some ⟨sn',0,none⟩)) /\ SnapsAt w' L w.heap.size C sn' S /\ Below w.heap.size w w':=by
 obtain ⟨_,lv,av,hs,h1,h2,h3,h4,h5⟩:=h
 have hone:=snCells_one S.l hs (fun p hp => by
  obtain ⟨i,hi,rfl⟩:=List.getElem_of_mem hp
  exact (h5 i (by omega) hi).1.oneCell)
 have HCL:=qh (fun w' (hb : Below w.heap.size w w') => oclone_any w' (ownsRow_below h4 hb) (by omega) hone)
 have HLT:=qh (Array.getElem?_eq_some_iff.1 h1).1
 have c0:=cells_at h1 0
 have c1:=cells_at h1 1
 have c2:=cells_at h1 2
 have HX:=qh (aI h2 (aI h3 h5))
 simp only [List.getElem?_toArray,List.getElem?_cons_zero,List.getElem?_cons_succ] at c0 c1 c2
 obtain ⟨la,ll,lc,rfl⟩:=ownsRow_slice h4
 obtain ⟨al,ac,aa,rfl⟩ : ∃ al ac aa,av = .slice aa al ac:=by
  obtain ⟨a,c,rfl,_⟩:=h2.bs
  exact ⟨_,_,_,rfl⟩
 clear h1 h2 h3 h4 h5 hone
 go_enter Tryz.func42,Tryz.ntmps42
 go_upto_region 1 with fail
 refine heldB_start (fun i => [0,1,2,3,4,5,6,7,8,9,10,11,12,13,14].contains i) (fun w' => w'.cell? ⟨sn,0,none⟩ = some (Value.slice la ll lc) /\ w'.cell? ⟨sn,1,none⟩ = some (Value.int .i64 (S.next : Int)) /\ w'.cell? ⟨sn,2,none⟩ = some (Value.slice aa al ac)) (by kernel_rfl) ?_ (fun hHeld => ?_)
 ·go_keep
 refine qtk 0 3 ?_
 simp only [qz0,qz1]
 refine qtk 1 4 ?_
 simp only [qz0,qz1]
 refine qtk 2 5 ?_
 simp only [qz0,qz1]
 refine qtk 3 6 ?_
 simp only [qz0,qz1]
 refine qtk 5 8 ?_
 simp only [qz0,qz1]
 refine qtk 6 9 ?_
 simp only [qz0,qz1]
 refine qtk 7 10 ?_
 simp only [qz0,qz1]
 refine qtk 8 11 ?_
 simp only [qz0,qz1]
 refine qtk 9 12 ?_
 simp only [qz0,qz1]
 refine qtk 10 13 ?_
 simp only [qz0,qz1]
 refine qtk 11 14 ?_
 simp only [qz0,qz1]
 refine qtk 12 15 ?_
 simp only [qz0,qz1]
 refine qone 4 fun K hK => ?_
 go_simp
 refine (HCL.out _ (Below.refl _ _).drew).mono ?_
 rintro e w2 ⟨lv2,rfl,ho2,hb2⟩
 obtain ⟨la2,ll2,lc2,rfl⟩:=ownsRow_slice ho2
 have hHeld : (fun w' => w'.cell? ⟨sn,0,none⟩ = some (Value.slice la ll lc) /\ w'.cell? ⟨sn,1,none⟩ = some (Value.int .i64 (S.next : Int)) /\ w'.cell? ⟨sn,2,none⟩ = some (Value.slice aa al ac)) w2:=⟨(hb2.cell (p:=⟨sn,0,none⟩) HLT.out).trans hHeld.1,(hb2.cell (p:=⟨sn,1,none⟩) HLT.out).trans hHeld.2.1,(hb2.cell (p:=⟨sn,2,none⟩) HLT.out).trans hHeld.2.2⟩
 go_wp2_with fail
 refine hK.out _ _ (fun _ => hHeld) ?_
 clear hK K
 refine qtk 13 16 ?_
 simp only [qz0,qz1]
 refine qone 14 fun K hK => ?_
 go_simp
 have hba:=(Below.refl w2.heap.size w2).alloc (Nat.le_refl _) (.cells #[.slice la2 ll2 lc2,.int .i64 (S.next : Int),.slice aa al ac] TSnaps)
 have hlt2 : sn < w2.heap.size:=Nat.lt_of_lt_of_le HLT.out hb2.size
 refine hK.out _ _ (fun _ => ⟨(hba.cell (p:=⟨sn,0,none⟩) hlt2).trans hHeld.1,(hba.cell (p:=⟨sn,1,none⟩) hlt2).trans hHeld.2.1,(hba.cell (p:=⟨sn,2,none⟩) hlt2).trans hHeld.2.2⟩) ?_
 clear hK K
 refine qfr 15 2 ?_
 simp only [qz0,qz1]
 refine qdon ?_
 have hb02 : Below w.heap.size w w2:=(Below.refl _ w).drew.trans hb2
 have hb03 : Below w.heap.size w (w2.alloc (.cells #[.slice la2 ll2 lc2,.int .i64 (S.next : Int),.slice aa al ac] TSnaps)):=hb02.trans (hba.mono hb02.size)
 have HF:=qh (aI (show SnapsAt (w2.alloc (.cells #[.slice la2 ll2 lc2,.int .i64 (S.next : Int),.slice aa al ac] TSnaps)) L w.heap.size C w2.heap.size S from by
  obtain ⟨h2,h3,h5⟩:=HX.out
  refine ⟨hb02.size,_,_,hs,heap_alloc_new w2 _,h2.below hb03,h3,ownsRow_below ho2 hba,fun i i1 i2 => ?_⟩
  obtain ⟨k1,w0,k2,k3,k4⟩:=h5 i i1 i2
  exact ⟨k1.below hb03,w0,k2,k3.trans (hb03.mono hC),k4⟩) hb03)
 clear hba hb02 hb03 ho2 hHeld hb2
 go_wp2_with fail
 go_ret
 exact ⟨_,rfl,HF.out.1,HF.out.2⟩
end
end Go.Proofs.YtabdcphioccgnaaGreatDoor
