/- TreeSeal. -/
import Derived.Test.YtabdcphioccgnaaGreatDoorK18
set_option maxRecDepth 100000
set_option maxHeartbeats 8000000
namespace Go.Proofs.YtabdcphioccgnaaGreatDoor
section
open Go.RowKit Go.ChangeMaps Go.MapKept
def MTn : Nat:=1099511627776
variable {w : World} {L B t mb c : Nat} {F G : Nat -> Nat} {T : Tr}
theorem fileT_ok (T : Tr) (i : Nat) (h : fileT T i = 0) : ∃ x,getK i T = some x /\ x.n.kind ≠ 2:=by
 unfold fileT at h
 cases hx : getK i T with
 | none => rw [hx] at h; simp at h
 | some x =>
  refine ⟨x,rfl,fun hk => ?_⟩
  rw [hx] at h
  simp [hk] at h
theorem fileV_no (F : Nat -> Nat) (T : Tr) (i : Nat) (h : fileT T i ≠ 0) : fileV F T i = .tuple #[.pointer none,.int .i64 (fileT T i : Int)]:=if_pos h
theorem fileV_ok (F : Nat -> Nat) (T : Tr) (i : Nat) (h : fileT T i = 0) : fileV F T i = .tuple #[.pointer (some ⟨F i,0,none⟩),.int .i64 0]:=if_neg (by omega)
theorem TChg.item {w' : World} {g : Nat} {C : Array Value} (h : Chg (fun k => k = g) w w') (hC : w.heap[g]? = some (.cells C TItem (0,0))) (hg : B <= g) : TChg B w w' :=
 h.mono (fun _ _ e => by rw [e]; exact ⟨hg,.inl ⟨C,(0,0),hC⟩⟩)
theorem chg_set (w : World) (g i : Nat) (u : Value) : Chg (fun k => k = g) w (w.setCell ⟨g,i,none⟩ u):=Chg.setCell (S:=fun k => k = g) (p:=⟨g,i,none⟩) (Chg.refl _ w) (fun _ => rfl) u
theorem frz_of {g : Nat} {C : Array Value} {t : TypeId} (h : w.heap[g]? = some (.cells C t (0,0))) (j : Nat) : w.frozen? ⟨g,j,none⟩ = false:=by simp [World.frozen?,h]
def tilIt (x : It) (u : Nat) : It:=⟨⟨x.n.id,x.n.kind,x.n.links,x.n.size,u,x.n.closed⟩,x.b,x.names⟩
def sealIt (x : It) (u : Nat) : It:=⟨⟨x.n.id,x.n.kind,x.n.links,x.n.size,u,true⟩,x.b,x.names⟩
def appIt (x : It) (b : List UInt8) : It:=⟨⟨x.n.id,x.n.kind,x.n.links,((x.b ++ b).length : Nat),x.n.til,x.n.closed⟩,x.b ++ b,x.names⟩
theorem TreeIn.til (h : TreeIn w L B t mb F G T) {i : Nat} {x : It} (hx : getK i T = some x) (u : Nat) :
  TreeIn (w.setCell ⟨F i,4,none⟩ (.int .u64 (u : Int))) L B t mb F G (setT T i (tilIt x u)) /\ TChg B w (w.setCell ⟨F i,4,none⟩ (.int .u64 (u : Int))):=by
 obtain ⟨hB,v,m,h2,h3,_⟩:=h.item i x hx
 have hc:=chg_set w (F i) 4 (.int .u64 (u : Int))
 have hs:=setCell_heap (i:=4) h2 (.int .u64 (u : Int))
 refine ⟨h.setItem hx hc h2 hs ?_ rfl rfl,TChg.item hc h2 hB⟩
 exact h3.chg0 hc (fun k _ e C hC => by subst e; rw [h2] at hC; injection hC with hC; injection hC with _ hC; exact absurd hC (by decide))
theorem TreeIn.seal (h : TreeIn w L B t mb F G T) {i : Nat} {x : It} (hx : getK i T = some x) (u : Nat) :
  TreeIn ((w.setCell ⟨F i,5,none⟩ (.bool true)).setCell ⟨F i,4,none⟩ (.int .u64 (u : Int))) L B t mb F G (setT T i (sealIt x u)) /\ TChg B w ((w.setCell ⟨F i,5,none⟩ (.bool true)).setCell ⟨F i,4,none⟩ (.int .u64 (u : Int))):=by
 obtain ⟨hB,v,m,h2,h3,_⟩:=h.item i x hx
 have hc : Chg (fun k => k = F i) w ((w.setCell ⟨F i,5,none⟩ (.bool true)).setCell ⟨F i,4,none⟩ (.int .u64 (u : Int))):=(chg_set w (F i) 5 _).setCell (fun _ => rfl) _
 have hs:=setCell_heap (i:=4) (setCell_heap (i:=5) h2 (.bool true)) (.int .u64 (u : Int))
 refine ⟨h.setItem hx hc h2 hs ?_ rfl rfl,TChg.item hc h2 hB⟩
 exact h3.chg0 hc (fun k _ e C hC => by subst e; rw [h2] at hC; injection hC with hC; injection hC with _ hC; exact absurd hC (by decide))
theorem TreeIn.app (h : TreeIn w L B t mb F G T) {i : Nat} {x : It} (hx : getK i T = some x) (b : List UInt8) (v : Value) (hv : Own w L v (x.b ++ b)) :
  TreeIn ((w.setCell ⟨F i,6,none⟩ v).setCell ⟨F i,3,none⟩ (.int .i64 (((x.b ++ b).length : Nat) : Int))) L B t mb F G (setT T i (appIt x b)) /\ TChg B w ((w.setCell ⟨F i,6,none⟩ v).setCell ⟨F i,3,none⟩ (.int .i64 (((x.b ++ b).length : Nat) : Int))):=by
 obtain ⟨hB,v0,m,h2,h3,_⟩:=h.item i x hx
 have hc : Chg (fun k => k = F i) w ((w.setCell ⟨F i,6,none⟩ v).setCell ⟨F i,3,none⟩ (.int .i64 (((x.b ++ b).length : Nat) : Int))):=(chg_set w (F i) 6 _).setCell (fun _ => rfl) _
 have hs:=setCell_heap (i:=3) (setCell_heap (i:=6) h2 v) (.int .i64 (((x.b ++ b).length : Nat) : Int))
 refine ⟨h.setItem hx hc h2 hs ?_ rfl rfl,TChg.item hc h2 hB⟩
 exact hv.chg0 hc (fun k _ e C hC => by subst e; rw [h2] at hC; injection hC with hC; injection hC with _ hC; exact absurd hC (by decide))
def keepT (T : Tr) (i u : Nat) : Nat × Tr :=
 if fileT T i ≠ 0 then (fileT T i,T) else match getK i T with
  | none => (20,T)
  | some x => if x.n.closed = false then (25,T) else if u < x.n.til then (28,T) else if MTn < u then (1,T) else (0,setT T i (tilIt x u))
def sealT (T : Tr) (i u : Nat) : Nat × Tr :=
 if fileT T i ≠ 0 then (fileT T i,T) else match getK i T with
  | none => (20,T)
  | some x => if x.n.closed = true then (27,T) else if MTn < u then (1,T) else (0,settleT (setT T i (sealIt x u)) i)
def appT (T : Tr) (i : Nat) (b : List UInt8) : Nat × Tr :=
 if fileT T i ≠ 0 then (fileT T i,T) else match getK i T with
  | none => (20,T)
  | some x => if x.n.closed = true then (27,T) else if (4096 : Int) - x.n.size < b.length then (15,T) else (0,setT T i (appIt x b))
theorem tkeep_any (h : TreeIn w L B t mb F G T) (ok : TrOk c T) (i u : Nat) (hi : i <= 1000000) :
  Calls Tryz.prog 132 #[.pointer (some ⟨t,0,none⟩),.int .i64 (i : Int),.int .u64 (u : Int)] w fun e w' => e = .returned (.int .i64 ((keepT T i u).1 : Int)) /\ TreeIn w' L B t mb F G (keepT T i u).2 /\ TChg B w w':=by
 have HF:=qh (file_tree h ok i hi)
 have HT:=qh h
 by_cases hf : fileT T i = 0
 ·obtain ⟨x,hx,hk⟩:=fileT_ok T i hf
  rw [fileV_ok _ _ _ hf] at HF
  have hr : keepT T i u = if x.n.closed = false then (25,T) else if u < x.n.til then (28,T) else if MTn < u then (1,T) else (0,setT T i (tilIt x u)):=by
   unfold keepT; rw [if_neg (by omega),hx]
  obtain ⟨_,v,m,h2,_⟩:=h.item i x hx
  obtain ⟨_,_,_,_,d4,d5,_⟩:=item_cells h2
  have f4:=frz_of h2 4
  have HX:=qh (aI hx hr)
  have HTil:=qh (h.til hx u)
  obtain ⟨cl,hcl⟩:=qnm x.n.closed
  obtain ⟨tl,htl⟩:=qnm x.n.til
  rw [<- hcl] at d5
  rw [<- htl] at d4
  have HC:=qh (aI hcl htl)
  clear h ok hf hx hr h2 hcl htl hk
  cases cl with
  | false =>
   have HR:=qh (show keepT T i u = (25,T) by rw [HX.out.2,if_pos HC.out.1.symm])
   go_enter Tryz.func132,Tryz.ntmps132
   go_wp2_with fail
   refine HF.out.mono ?_
   rintro e w1 ⟨rfl,rfl⟩
   go_wp2_with fail
   go_ret
   rw [HR.out]
   exact ⟨rfl,HT.out,TChg.refl _ _⟩
  | true =>
   by_cases h28 : u < tl
   ·have e28 : (u : Int) < (tl : Int):=by omega
    have HR:=qh (show keepT T i u = (28,T) by rw [HX.out.2,if_neg (by rw [<- HC.out.1]; simp),if_pos (by rw [<- HC.out.2]; exact h28)])
    clear h28
    go_enter Tryz.func132,Tryz.ntmps132
    go_wp2_with fail
    refine HF.out.mono ?_
    rintro e w1 ⟨rfl,rfl⟩
    go_wp2_with fail
    go_ret
    rw [HR.out]
    exact ⟨rfl,HT.out,TChg.refl _ _⟩
   ·have e28 : ¬ (u : Int) < (tl : Int):=by omega
    by_cases h1 : MTn < u
    ·have e1 : (1099511627776 : Int) < (u : Int):=by unfold MTn at h1; omega
     have HR:=qh (show keepT T i u = (1,T) by rw [HX.out.2,if_neg (by rw [<- HC.out.1]; simp),if_neg (by rw [<- HC.out.2]; exact h28),if_pos h1])
     clear h28 h1
     go_enter Tryz.func132,Tryz.ntmps132
     go_wp2_with fail
     refine HF.out.mono ?_
     rintro e w1 ⟨rfl,rfl⟩
     go_wp2_with fail
     go_ret
     rw [HR.out]
     exact ⟨rfl,HT.out,TChg.refl _ _⟩
    ·have e1 : ¬ (1099511627776 : Int) < (u : Int):=by unfold MTn at h1; omega
     have HR:=qh (show keepT T i u = (0,setT T i (tilIt x u)) by rw [HX.out.2,if_neg (by rw [<- HC.out.1]; simp),if_neg (by rw [<- HC.out.2]; exact h28),if_neg h1])
     clear h28 h1
     go_enter Tryz.func132,Tryz.ntmps132
     go_wp2_with fail
     refine HF.out.mono ?_
     rintro e w1 ⟨rfl,rfl⟩
     go_wp2_with fail
     go_ret
     rw [HR.out]
     exact ⟨rfl,HTil.out.1,HTil.out.2⟩
 ·rw [fileV_no _ _ _ hf] at HF
  have HR:=qh (show keepT T i u = (fileT T i,T) by unfold keepT; rw [if_pos hf])
  generalize fileT T i = f at *
  have hf1 : ¬ (f : Int) = 0:=by omega
  clear h ok hf
  go_enter Tryz.func132,Tryz.ntmps132
  go_wp2_with fail
  refine HF.out.mono ?_
  rintro e w1 ⟨rfl,rfl⟩
  go_wp2_with fail
  go_ret
  rw [HR.out]
  exact ⟨rfl,HT.out,TChg.refl _ _⟩
theorem tseal_any (h : TreeIn w L B t mb F G T) (ok : TrOk c T) (i u : Nat) (hi : i <= 1000000) :
  Calls Tryz.prog 123 #[.pointer (some ⟨t,0,none⟩),.int .i64 (i : Int),.int .u64 (u : Int)] w fun e w' => e = .returned (.int .i64 ((sealT T i u).1 : Int)) /\ TreeIn w' L B t mb F G (sealT T i u).2 /\ TChg B w w':=by
 have HF:=qh (file_tree h ok i hi)
 have HT:=qh h
 by_cases hf : fileT T i = 0
 ·obtain ⟨x,hx,hk⟩:=fileT_ok T i hf
  rw [fileV_ok _ _ _ hf] at HF
  have hr : sealT T i u = if x.n.closed = true then (27,T) else if MTn < u then (1,T) else (0,settleT (setT T i (sealIt x u)) i):=by
   unfold sealT; rw [if_neg (by omega),hx]
  obtain ⟨_,v,m,h2,_⟩:=h.item i x hx
  obtain ⟨_,_,_,_,d4,d5,_⟩:=item_cells h2
  have f4:=frz_of h2 4
  have f5:=frz_of h2 5
  have HX:=qh (aI hx hr)
  have HTil:=qh (h.seal hx u)
  have HST:=qh (settle_any (h.seal hx u).1 i (sealIt x u) (by rw [setT_get,if_pos rfl,hx]; rfl) (ok.nd i x hx).2.1 hi)
  obtain ⟨cl,hcl⟩:=qnm x.n.closed
  rw [<- hcl] at d5
  have HC:=qh hcl
  clear h ok hf hx hr h2 hcl hk
  cases cl with
  | true =>
   have HR:=qh (show sealT T i u = (27,T) by rw [HX.out.2,if_pos HC.out.symm])
   go_enter Tryz.func123,Tryz.ntmps123
   go_wp2_with fail
   refine HF.out.mono ?_
   rintro e w1 ⟨rfl,rfl⟩
   go_wp2_with fail
   go_ret
   rw [HR.out]
   exact ⟨rfl,HT.out,TChg.refl _ _⟩
  | false =>
   by_cases h1 : MTn < u
   ·have e1 : (1099511627776 : Int) < (u : Int):=by unfold MTn at h1; omega
    have HR:=qh (show sealT T i u = (1,T) by rw [HX.out.2,if_neg (by rw [<- HC.out]; simp),if_pos h1])
    clear h1
    go_enter Tryz.func123,Tryz.ntmps123
    go_wp2_with fail
    refine HF.out.mono ?_
    rintro e w1 ⟨rfl,rfl⟩
    go_wp2_with fail
    go_ret
    rw [HR.out]
    exact ⟨rfl,HT.out,TChg.refl _ _⟩
   ·have e1 : ¬ (1099511627776 : Int) < (u : Int):=by unfold MTn at h1; omega
    have HR:=qh (show sealT T i u = (0,settleT (setT T i (sealIt x u)) i) by rw [HX.out.2,if_neg (by rw [<- HC.out]; simp),if_neg h1])
    clear h1
    go_enter Tryz.func123,Tryz.ntmps123
    go_wp2_with fail
    refine HF.out.mono ?_
    rintro e w1 ⟨rfl,rfl⟩
    go_wp2_with fail
    refine HST.out.mono ?_
    rintro e w2 ⟨rfl,hT2,hC2⟩
    have H2:=qh (aI hT2 (HTil.out.2.trans hC2))
    clear hT2 hC2
    go_wp2_with fail
    go_ret
    rw [HR.out]
    exact ⟨rfl,H2.out.1,H2.out.2⟩
 ·rw [fileV_no _ _ _ hf] at HF
  have HR:=qh (show sealT T i u = (fileT T i,T) by unfold sealT; rw [if_pos hf])
  generalize fileT T i = f at *
  have hf1 : ¬ (f : Int) = 0:=by omega
  clear h ok hf
  go_enter Tryz.func123,Tryz.ntmps123
  go_wp2_with fail
  refine HF.out.mono ?_
  rintro e w1 ⟨rfl,rfl⟩
  go_wp2_with fail
  go_ret
  rw [HR.out]
  exact ⟨rfl,HT.out,TChg.refl _ _⟩
theorem two_LL {w : World} {g : Nat} {a1 a2 : Option Addr} {l1 l2 c1 c2 : Nat} {xs ys : List UInt8} (h0 : w.cell? ⟨g,0,none⟩ = some (.slice a1 l1 c1)) (h1 : w.cell? ⟨g,1,none⟩ = some (.slice a2 l2 c2)) (hg : g < w.heap.size) (hx : Bs w a1 l1 c1 xs) (hy : Bs w a2 l2 c2 ys) : LL w (some ⟨g,0,none⟩) 2 2 [xs,ys]:=by
 refine ⟨rfl,Nat.le_refl _,by simp [maxLen],.inr ⟨g,0,rfl,hg,fun i hi => ?_⟩⟩
 match i,hi with
 | 0,_ => exact ⟨_,_,_,h0,hx⟩
 | 1,_ => exact ⟨_,_,_,h1,hy⟩
theorem tapp_any (h : TreeIn w L B t mb F G T) (ok : TrOk c T) (hLB : L <= w.heap.size) (i : Nat) (hi : i <= 1000000) (da : Option Addr) (dl dc : Nat) (ds : List UInt8) (hD : Bs w da dl dc ds) :
  Calls Tryz.prog 122 #[.pointer (some ⟨t,0,none⟩),.int .i64 (i : Int),.slice da dl dc] w fun e w' => e = .returned (.int .i64 ((appT T i ds).1 : Int)) /\ TreeIn w' L B t mb F G (appT T i ds).2 /\ TChg B w w':=by
 have HF:=qh (file_tree h ok i hi)
 have HT:=qh h
 have hdl:=hD.1
 by_cases hf : fileT T i = 0
 ·obtain ⟨x,hx,hk⟩:=fileT_ok T i hf
  rw [fileV_ok _ _ _ hf] at HF
  have hr : appT T i ds = if x.n.closed = true then (27,T) else if (4096 : Int) - x.n.size < dl then (15,T) else (0,setT T i (appIt x ds)):=by
   unfold appT; rw [if_neg (by omega),hx,hdl]
  obtain ⟨_,v,m,h2,h3,_⟩:=h.item i x hx
  obtain ⟨_,_,_,d3,_,d5,d6,_⟩:=item_cells h2
  have HX:=qh (aI hx (aI hr h2))
  obtain ⟨_,_,hok,hbl,_⟩:=ok.nd i x hx
  have hsz : 0 <= x.n.size /\ x.n.size <= 4096:=by
   have:=hok.2.2.2.2
   omega
  obtain ⟨n,hn⟩ : ∃ n : Nat,n = x.b.length:=⟨_,rfl⟩
  obtain ⟨xa,xc,rfl,hXB⟩:=h3.bsn (n:=n) hn.symm
  obtain ⟨cl,hcl⟩:=qnm x.n.closed
  rw [<- hcl] at d5
  have hxs : x.n.size = (n : Int):=by omega
  rw [hxs] at d3 hsz
  have e1 : IntKind.i64.wrap (4096 - (n : Int)) = 4096 - (n : Int):=by rw [IntWalk.i64_in _ (by omega)]
  have HC:=qh (aI hcl (aI hxs hn))
  have HB:=qh (aI hXB (aI hD hdl))
  clear h ok hf hx hr h2 hcl hk h3 hn hok hbl hXB hD hxs hdl
  cases cl with
  | true =>
   have HR:=qh (show appT T i ds = (27,T) by rw [HX.out.2.1,if_pos HC.out.1.symm])
   go_enter Tryz.func122,Tryz.ntmps122
   go_wp2_with fail
   refine HF.out.mono ?_
   rintro e w1 ⟨rfl,rfl⟩
   go_wp2_with fail
   go_ret
   rw [HR.out]
   exact ⟨rfl,HT.out,TChg.refl _ _⟩
  | false =>
   by_cases h1 : 4096 - (n : Int) < (dl : Int)
   ·have HR:=qh (show appT T i ds = (15,T) by rw [HX.out.2.1,if_neg (by rw [<- HC.out.1]; simp),if_pos (by rw [HC.out.2.1]; exact h1)])
    go_enter Tryz.func122,Tryz.ntmps122
    go_wp2_with fail
    refine HF.out.mono ?_
    rintro e w1 ⟨rfl,rfl⟩
    go_wp2_with fail
    go_ret
    rw [HR.out]
    exact ⟨rfl,HT.out,TChg.refl _ _⟩
   ·have HR:=qh (show appT T i ds = (0,setT T i (appIt x ds)) by rw [HX.out.2.1,if_neg (by rw [<- HC.out.1]; simp),if_neg (by rw [HC.out.2.1]; exact h1)])
    have hle : n + dl <= 4096:=by omega
    have hba:=(Below.refl w.heap.size w).alloc (Nat.le_refl _) (.cells #[.slice xa n xc,.slice da dl dc] 30)
    have hLLa : LL (w.alloc (.cells #[.slice xa n xc,.slice da dl dc] 30)) (some ⟨w.heap.size,0,none⟩) 2 2 [x.b,ds]:=two_LL (cell_new _ _ _ 0) (cell_new _ _ _ 1) (by simp) (HB.out.1.below hba) (HB.out.2.1.below hba)
    have hfl : ([x.b,ds] : List (List UInt8)).flatten = x.b ++ ds:=by simp
    have hxd : (x.b ++ ds).length = n + dl:=by rw [List.length_append,HB.out.2.2,<- HC.out.2.2]
    have HCC:=qh (concat_any 2 2 _ _ _ hLLa (by omega) (by rw [hfl,hxd]; omega))
    rw [hfl] at HCC
    have hE:=qh ((Ext.refl w).alloc (.cells #[.slice xa n xc,.slice da dl dc] 30))
    have HXD:=qh hxd
    clear hLLa hba hfl hxd
    go_enter Tryz.func122,Tryz.ntmps122
    go_wp2_with fail
    refine HF.out.mono ?_
    rintro e w1 ⟨rfl,rfl⟩
    go_wp2_with fail
    refine HCC.out.mono ?_
    rintro e w2 ⟨v2,rfl,ho2,hb2⟩
    have hE2:=hE.out.step hb2
    obtain ⟨hx,_,h2⟩:=HX.out
    have h22:=(hE2.1.block _ (Array.getElem?_eq_some_iff.1 h2).1).trans h2
    have f3:=frz_of h22 3
    have f6:=frz_of h22 6
    have c6 : w2.cell? ⟨F i,6,none⟩ = some (.slice xa n xc):=cells_at h22 6
    have c3 : w2.cell? ⟨F i,3,none⟩ = some (.int .i64 x.n.size):=cells_at h22 3
    clear d3 d5 d6
    have HA:=qh ((HT.out.below hE2.1).app hx ds v2 (ho2.base (by have:=hE.out.2; omega)))
    obtain ⟨va,vc,rfl,hBv⟩:=ho2.bsn (n:=n + dl) HXD.out
    have hlen : (((x.b ++ ds).length : Nat) : Int) = ((n + dl : Nat) : Int):=by rw [HXD.out]
    rw [hlen] at HA
    obtain ⟨N,hN⟩:=qnm (n + dl)
    rw [<- hN] at HA ⊢
    have HE2:=qh hE2.1
    clear ho2 hb2 hE2 hx h2 h22 hBv hlen hN
    go_wp2_with fail
    go_ret
    rw [HR.out]
    exact ⟨rfl,HA.out.1,(TChg.of_below HE2.out).trans HA.out.2⟩
 ·rw [fileV_no _ _ _ hf] at HF
  have HR:=qh (show appT T i ds = (fileT T i,T) by unfold appT; rw [if_pos hf])
  generalize fileT T i = f at *
  have hf1 : ¬ (f : Int) = 0:=by omega
  clear h ok hf hD hdl
  go_enter Tryz.func122,Tryz.ntmps122
  go_wp2_with fail
  refine HF.out.mono ?_
  rintro e w1 ⟨rfl,rfl⟩
  go_wp2_with fail
  go_ret
  rw [HR.out]
  exact ⟨rfl,HT.out,TChg.refl _ _⟩
end
end Go.Proofs.YtabdcphioccgnaaGreatDoor
