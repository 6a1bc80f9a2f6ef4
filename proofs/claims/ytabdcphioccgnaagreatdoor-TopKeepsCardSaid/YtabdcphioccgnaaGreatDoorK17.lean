/- TreeLook; TreeMake; TreeFile. -/
import Derived.Test.YtabdcphioccgnaaGreatDoorK16
set_option maxRecDepth 100000
set_option maxHeartbeats 8000000
namespace Go.Proofs.YtabdcphioccgnaaGreatDoor
section
open Go.RowKit Go.ChangeMaps Go.MapKept
theorem nkeyed_ty : Tryz.prog.underlying 190 = some (.map TStr TI64):=Tryz.underlying190
variable {w : World} {L B t mb c : Nat} {F G : Nat -> Nat} {T : Tr}
theorem TreeIn.cell0 (h : TreeIn w L B t mb F G T) : w.cell? ⟨t,0,none⟩ = some (.map (some mb)):=cells_at h.cel 0
theorem zero_item (w : World) : (zeroValue 189).run Tryz.prog w = .ok (.pointer none) w:=Tryz.zeroValue189 w
theorem zero_int (w : World) : (zeroValue TI64).run Tryz.prog w = .ok (.int .i64 0) w:=Tryz.zeroValue3 w
theorem TreeIn.hit (h : TreeIn w L B t mb F G T) {i : Nat} {x : It} (hx : getK i T = some x) (hi : i <= 1000000000) :
  (Instr.lookup 186 (.map (some mb)) (.int .i64 (i : Int)) false).run Tryz.prog w = .ok (.pointer (some ⟨F i,0,none⟩)) w:=by
 have:=h.map.look numS dkeyed ikeyed_ty (zero_item w) (dkey i hi)
 rw [vals_get,hx] at this
 exact this
theorem TreeIn.miss (h : TreeIn w L B t mb F G T) {i : Nat} (hx : getK i T = none) (hi : i <= 1000000000) :
  (Instr.lookup 186 (.map (some mb)) (.int .i64 (i : Int)) false).run Tryz.prog w = .ok (.pointer none) w:=by
 have:=h.map.look numS dkeyed ikeyed_ty (zero_item w) (dkey i hi)
 rw [vals_get,hx] at this
 exact this
theorem TreeIn.hit2 (h : TreeIn w L B t mb F G T) {i : Nat} {x : It} (hx : getK i T = some x) (hi : i <= 1000000000) :
  (Instr.lookup 186 (.map (some mb)) (.int .i64 (i : Int)) true).run Tryz.prog w = .ok (.tuple #[.pointer (some ⟨F i,0,none⟩),.bool true]) w:=by
 have:=h.map.look_ok numS dkeyed ikeyed_ty (zero_item w) (dkey i hi)
 rw [vals_get,hx] at this
 exact this
theorem TreeIn.miss2 (h : TreeIn w L B t mb F G T) {i : Nat} (hx : getK i T = none) (hi : i <= 1000000000) :
  (Instr.lookup 186 (.map (some mb)) (.int .i64 (i : Int)) true).run Tryz.prog w = .ok (.tuple #[.pointer none,.bool false]) w:=by
 have:=h.map.look_ok numS dkeyed ikeyed_ty (zero_item w) (dkey i hi)
 rw [vals_get,hx] at this
 exact this
theorem TreeIn.dir (h : TreeIn w L B t mb F G T) {i : Nat} {x : It} (hx : getK i T = some x) (hk : x.n.kind = 2) :
  w.cell? ⟨F i,1,none⟩ = some (.int .i64 2) /\ w.cell? ⟨F i,7,none⟩ = some (.map (some (G i))) /\ MapAt strS Tryz.prog TStr w (G i) (vals nval x.names):=by
 obtain ⟨_,v,m,h2,_,h4,_⟩:=h.item i x hx
 obtain ⟨hm,_,hM⟩:=h4 hk
 obtain ⟨_,c1,_,_,_,_,_,c7⟩:=item_cells h2
 rw [hk] at c1
 rw [hm] at c7
 exact ⟨c1,c7,hM⟩
theorem name_look {nb : Nat} {l : List (List UInt8 × Nat)} (h : MapAt strS Tryz.prog TStr w nb (vals nval l)) (s : List UInt8) (hs : s.length <= 1000000) :
  (Instr.lookup 190 (.map (some nb)) (.string (strOf s)) true).run Tryz.prog w = .ok (.tuple #[.int .i64 (((getK s l).getD 0 : Nat) : Int),.bool (getK s l).isSome]) w:=by
 have:=h.look_ok strS skeyed nkeyed_ty (zero_int w) (skey s (by unfold maxLen; omega))
 rw [vals_get] at this
 rw [this]
 cases getK s l <;> rfl
theorem tfine1_any (g : Nat) (a : Option Addr) (n cap : Nat) (ls : List (List UInt8)) (hg : w.cell? ⟨g,0,none⟩ = some (.slice a n cap)) (hS : Ss w a n cap ls) (hm : ∀ s ∈ ls,s.length <= 1000000) :
  Calls Tryz.prog 114 #[.slice (some ⟨g,0,none⟩) 1 1] w fun e w' => e = .returned (.int .i64 (fineP ls : Int)) /\ Below w.heap.size w w':=by
 have HF:=qh (pfine_any a n cap ls w hS hm)
 generalize fineP ls = f at *
 clear hS hm
 go_enter Tryz.func114,Tryz.ntmps114
 go_wp2_with fail
 refine wp_loop_rounds 2 ?_
 rw [rounds_succ]
 go_wp2_with fail
 refine HF.out.mono ?_
 rintro e w1 ⟨rfl,hb⟩
 by_cases h0 : f = 0
 ·subst h0
  go_wp2_with fail
  rw [rounds_succ]
  go_wp2_with fail
  go_ret
  exact ⟨rfl,hb⟩
 ·have h1 : ¬ (f : Int) = 0:=by omega
  go_wp2_with fail
  go_ret
  exact ⟨rfl,hb⟩
theorem look_any (h : TreeIn w L B t mb F G T) (ok : TrOk c T) (hc : c <= 60000) (a : Option Addr) (n cap : Nat) (p : List (List UInt8)) (hS : Ss w a n cap p) (hm : ∀ s ∈ p,s.length <= 1000000) :
  Calls Tryz.prog 124 #[.pointer (some ⟨t,0,none⟩),.slice a n cap] w fun e w' => e = .returned (.tuple #[.int .i64 ((lookT T 0 p).1 : Int),.int .i64 ((lookT T 0 p).2 : Int)]) /\ w = w':=by
 have hpl:=hS.1
 have hcap:=hS.2.1
 have hmx : cap <= 9223372036854775807:=Nat.le_trans hS.2.2.1 (by unfold maxLen; decide)
 have HT:=qh (aI h ok)
 have HS:=qh (aI hS hm)
 have c0:=h.cell0
 clear h ok hS hm
 go_enter Tryz.func124,Tryz.ntmps124
 go_wp2_with fail
 go_loopw [6,14] (fun id k wr => ∃ i j : Nat,j <= n /\ id = .int .i64 (i : Int) /\ k = .int .i64 (j : Int) /\ wr = w /\ lookT T 0 p = lookT T i (p.drop j) /\ ∃ x,getK i T = some x) (fun _ k _ => n - (intOf k).toNat)
 case atStart => exact ⟨0,0,by omega,rfl,rfl,rfl,rfl,by obtain ⟨x,hx,_⟩:=HT.out.2.root; exact ⟨x,hx⟩⟩
 case round =>
  obtain ⟨i,j,hj,rfl,rfl,rfl,hl,x,hx⟩:=hrel
  by_cases hlt : j < n
  ·obtain ⟨b,off,rfl,hb,hcs⟩:=HS.out.1.at (by omega)
   have hjn : j < p.length:=by omega
   have c1:=hcs j hjn
   have hsl:=HS.out.2 _ (List.getElem_mem hjn)
   rw [List.drop_eq_getElem_cons hjn] at hl
   clear hcs
   generalize p[j] = s at c1 hsl hl
   have hi:=(HT.out.2.nd i x hx).1
   have hhit:=HT.out.1.hit hx (by omega)
   have e1 : (0 : Int) <= (j : Int):=by omega
   have e2 : (j : Int) < (n : Int):=by omega
   obtain ⟨j2,hj2⟩:=qnm (j + 1)
   have e3 : IntKind.i64.wrap ((j : Int) + 1) = (j2 : Int):=by rw [IntWalk.i64_in _ (by omega)]; omega
   by_cases hk : x.n.kind = 2
   ·obtain ⟨d1,d7,hM⟩:=HT.out.1.dir hx hk
    have hnl:=name_look hM s hsl
    cases hg : getK s x.names with
    | none =>
     rw [hg] at hnl
     simp only [Option.getD_none,Option.isSome_none] at hnl
     have hres : lookT T i (s :: p.drop (j + 1)) = (0,20):=by simp [lookT,hx,hk,hg]
     rw [hres] at hl
     have HL:=qh hl
     clear hl hM hx hk hg hres hsl hjn hj2 hi hj hpl
     go_wp2_with fail
     go_ret2
     exact ⟨by rw [HL.out]; rfl,rfl⟩
    | some k =>
     rw [hg] at hnl
     simp only [Option.getD_some,Option.isSome_some] at hnl
     have hres : lookT T i (s :: p.drop (j + 1)) = lookT T k (p.drop (j + 1)):=by simp [lookT,hx,hk,hg]
     rw [hres] at hl
     have HL:=qh (aI hl (aI (HT.out.2.nm i x s k hx hg).1 hj2))
     clear hl hM hx hk hg hres hsl hjn hj2 hi hj hpl
     go_wp2_with fail
     go_roundw
     case rel =>
      obtain ⟨hl,hy,hj2⟩:=HL.out
      exact ⟨k,j2,by omega,rfl,rfl,trivial,by rw [hl,hj2],hy⟩
     case measure =>
      obtain ⟨_,_,hj2⟩:=HL.out
      show n - (j2 : Int).toNat < n - (j : Int).toNat
      omega
   ·obtain ⟨_,v,m,h2,_⟩:=HT.out.1.item i x hx
    have d1:=(item_cells h2).2.1
    have hres : lookT T i (s :: p.drop (j + 1)) = (0,23):=by simp [lookT,hx,hk]
    rw [hres] at hl
    have hk1 : x.n.kind = 1:=by rcases HT.out.2.kind hx with h | h; exact h; exact absurd h hk
    rw [hk1] at d1
    have HL:=qh hl
    clear hl hx hk hk1 hres hsl hjn hj2 hi hj h2 hpl
    go_wp2_with fail
    go_ret2
    exact ⟨by rw [HL.out]; rfl,rfl⟩
  ·obtain rfl : j = n:=by omega
   have hd : p.drop j = []:=List.drop_eq_nil_of_le (by omega)
   rw [hd] at hl
   have hres : lookT T i [] = (i,0):=rfl
   rw [hres] at hl
   have HL:=qh hl
   clear hl hx hres hd hlt hj hpl
   go_wp2_with fail
   go_ret2
   exact ⟨by rw [HL.out]; rfl,rfl⟩
def lookP (T : Tr) (p : List (List UInt8)) : Nat × Nat:=if fineP p ≠ 0 then (0,fineP p) else lookT T 0 p
theorem Look_any (h : TreeIn w L B t mb F G T) (ok : TrOk c T) (hc : c <= 60000) (a : Option Addr) (n cap : Nat) (p : List (List UInt8)) (hS : Ss w a n cap p) (hm : ∀ s ∈ p,s.length <= 1000000) :
  Calls Tryz.prog 118 #[.pointer (some ⟨t,0,none⟩),.slice a n cap] w fun e w' => e = .returned (.tuple #[.int .i64 ((lookP T p).1 : Int),.int .i64 ((lookP T p).2 : Int)]) /\ Below w.heap.size w w':=by
 have HF:=qh (tfine1_any (w:=w.alloc (.cells #[.slice a n cap] 31)) w.heap.size a n cap p (by rw [cell_new]; rfl) (hS.alloc _) hm)
 have HL:=qh (fun w' (hb : Below w.heap.size w w') => look_any (h.below hb) ok hc a n cap p (hS.below hb) hm)
 have hP : lookP T p = if fineP p ≠ 0 then (0,fineP p) else lookT T 0 p:=rfl
 have HP:=qh hP
 have hE:=qh ((Ext.refl w).alloc (.cells #[.slice a n cap] 31))
 clear hP h ok hS hm
 generalize lookP T p = r at *
 generalize fineP p = f at *
 generalize lookT T 0 p = q at *
 by_cases h0 : f = 0
 ·subst h0
  go_enter Tryz.func118,Tryz.ntmps118
  go_wp2_with fail
  refine HF.out.mono ?_
  rintro e w1 ⟨rfl,hb⟩
  have hE1:=qh (hE.out.step hb)
  go_wp2_with fail
  refine (HL.out _ hE1.out.1).mono ?_
  rintro e w2 ⟨rfl,rfl⟩
  go_wp2_with fail
  go_ret2
  exact ⟨by rw [HP.out]; rfl,hE1.out.1⟩
 ·have h1 : ¬ (f : Int) = 0:=by omega
  go_enter Tryz.func118,Tryz.ntmps118
  go_wp2_with fail
  refine HF.out.mono ?_
  rintro e w1 ⟨rfl,hb⟩
  have hE1:=qh (hE.out.step hb)
  go_wp2_with fail
  go_ret2
  exact ⟨by rw [HP.out,if_pos h0]; rfl,hE1.out.1⟩
theorem getLast_app {α : Type} (l : List α) (s : α) : (l ++ [s]).getLast? = some s:=by simp
theorem list_snoc {α : Type} (l : List α) (h : l ≠ []) : ∃ xs s,l = xs ++ [s]:=⟨l.dropLast,l.getLast h,(List.dropLast_concat_getLast h).symm⟩
def placeV (F : Nat -> Nat) (r : Nat × Nat) (s : List UInt8) : Value:=if r.2 ≠ 0 then .tuple #[.pointer none,.string ⟨#[]⟩,.int .i64 (r.2 : Int)] else .tuple #[.pointer (some ⟨F r.1,0,none⟩),.string (strOf s),.int .i64 0]
theorem placeV_no (F : Nat -> Nat) (i f : Nat) (s : List UInt8) (h : f ≠ 0) : placeV F (i,f) s = .tuple #[.pointer none,.string ⟨#[]⟩,.int .i64 (f : Int)]:=if_pos h
theorem placeV_ok (F : Nat -> Nat) (i : Nat) (s : List UInt8) : placeV F (i,0) s = .tuple #[.pointer (some ⟨F i,0,none⟩),.string (strOf s),.int .i64 0]:=if_neg (by simp)
theorem place_tree (h : TreeIn w L B t mb F G T) (ok : TrOk c T) (hc : c <= 60000) (a : Option Addr) (n cap : Nat) (p : List (List UInt8)) (hS : Ss w a n cap p) (hm : ∀ s ∈ p,s.length <= 1000000) (hn : n <= 100000) :
  Calls Tryz.prog 115 #[.pointer (some ⟨t,0,none⟩),.slice a n cap] w fun e w' => e = .returned (placeV F (placeT T p) (p.getLast?.getD [])) /\ Below w.heap.size w w':=by
 have hpl:=hS.1
 by_cases hp0 : p = []
 ·subst hp0
  obtain rfl : n = 0:=by simpa using hpl.symm
  have hr : placeT T [] = (0,1):=rfl
  rw [hr,placeV_no _ _ _ _ (by omega)]
  have HPn:=qh (fun w => parent_nil w cap a)
  clear h ok hS hm hr
  go_enter Tryz.func115,Tryz.ntmps115
  go_wp2_with fail
  refine (HPn.out _).mono ?_
  rintro e w1 ⟨rfl,rfl⟩
  go_wp2_with fail
  go_ret3
  exact ⟨rfl,Below.refl _ _⟩
 obtain ⟨up,s,rfl⟩:=list_snoc p hp0
 obtain ⟨n',rfl⟩ : ∃ n',n = n' + 1:=⟨n - 1,by simp at hpl; omega⟩
 have hul : up.length = n':=by simpa using hpl
 have HPn:=qh (parent_any a n' cap up s w hS (by omega))
 have HL:=qh (fun w' a c' (hb : Below w.heap.size w w') (hSu : Ss w' a n' c' up) => look_any (h.below hb) ok hc a n' c' up hSu (fun x hx => hm x (by simp [hx])))
 have HT:=qh (fun w' (hb : Below w.heap.size w w') => h.below hb)
 have hpt : placeT T (up ++ [s]) = if (lookT T 0 up).2 ≠ 0 then (0,(lookT T 0 up).2) else match getK (lookT T 0 up).1 T with | none => (0,20) | some x => if x.n.kind = 2 then ((lookT T 0 up).1,0) else (0,23):=by
  unfold placeT
  rw [getLast_app,List.dropLast_concat]
  rfl
 have hgl : (up ++ [s]).getLast?.getD [] = s:=by rw [getLast_app]; rfl
 rw [hgl]
 have hlo:=lookT_ok ok up 0 (by obtain ⟨x,hx,_⟩:=ok.root; exact ⟨x,hx⟩)
 generalize placeT T (up ++ [s]) = r at *
 generalize lookT T 0 up = q at *
 have HX:=qh (aI hpt (aI hlo ok))
 obtain ⟨V,hV⟩:=qnm (placeV F r s)
 rw [<- hV]
 have HV:=qh hV
 clear hV
 obtain ⟨N,hN⟩:=qnm (n' + 1)
 rw [<- hN] at HPn ⊢
 clear h ok hS hm hpt hlo hp0 hgl hpl hN
 obtain ⟨q1,q2⟩:=q
 simp only at HL HX
 go_enter Tryz.func115,Tryz.ntmps115
 go_wp2_with fail
 refine HPn.out.mono ?_
 rintro e w1 ⟨v1,rfl,ho1,hb1⟩
 obtain ⟨a1,c1,rfl,hS1⟩:=ho1.ss hul
 have HE1:=qh hb1
 have hL1:=qh (HL.out w1 a1 c1 hb1 hS1)
 clear ho1 hb1 hS1
 go_wp2_with fail
 refine hL1.out.mono ?_
 rintro e w2 ⟨rfl,rfl⟩
 by_cases h2 : q2 = 0
 ·subst h2
  obtain ⟨x,hx⟩:=HX.out.2.1 rfl
  have hi:=(HX.out.2.2.nd q1 x hx).1
  have hT1:=HT.out _ HE1.out
  have c0:=hT1.cell0
  have hhit:=hT1.hit hx (by omega)
  by_cases hk : x.n.kind = 2
  ·obtain ⟨d1,_,_⟩:=hT1.dir hx hk
   have HR:=qh (show r = (q1,0) by rw [HX.out.1,if_neg (by simp)]; simp [hx,hk])
   clear hT1 hx hi hk
   go_wp2_with fail
   go_ret3
   exact ⟨by rw [HV.out,HR.out,placeV_ok]; rfl,HE1.out⟩
  ·obtain ⟨_,v,m,h2,_⟩:=hT1.item q1 x hx
   have d1:=(item_cells h2).2.1
   have hk1 : x.n.kind = 1:=by rcases HX.out.2.2.kind hx with h | h; exact h; exact absurd h hk
   rw [hk1] at d1
   have HR:=qh (show r = (0,23) by rw [HX.out.1,if_neg (by simp)]; simp [hx,hk])
   clear hT1 hx hi hk hk1 h2
   go_wp2_with fail
   go_ret3
   exact ⟨by rw [HV.out,HR.out,placeV_no _ _ _ _ (by omega)]; rfl,HE1.out⟩
 ·have h3 : ¬ (q2 : Int) = 0:=by omega
  have HR:=qh (show r = (0,q2) by rw [HX.out.1,if_pos h2])
  have H2:=qh h2
  clear h2
  go_wp2_with fail
  go_ret3
  exact ⟨by rw [HV.out,HR.out,placeV_no _ _ _ _ H2.out]; rfl,HE1.out⟩
end
section
open Go.RowKit Go.ChangeMaps Go.MapKept
def TM (w : World) (B k : Nat) : Prop:=B <= k /\ ((∃ C fr,w.heap[k]? = some (.cells C TItem fr)) ∨ ∃ es cl,w.heap[k]? = some (.map es cl))
def TChg (B : Nat) (w w' : World) : Prop:=Chg (TM w B) w w'
theorem TChg.trans {B : Nat} {a b c : World} (h : TChg B a b) (k : TChg B b c) : TChg B a c :=
 Chg.trans h k (fun i hi hk => by
  apply Classical.byContradiction
  intro hn
  have e:=h.block i hi hn
  obtain ⟨k1,k2⟩:=hk
  rw [e] at k2
  exact hn ⟨k1,k2⟩)
theorem TChg.of_below {B : Nat} {w w' : World} (h : Below w.heap.size w w') : TChg B w w':=Chg.of_below h _
theorem TChg.refl (B : Nat) (w : World) : TChg B w w:=Chg.refl _ w
theorem TChg.below {B : Nat} {w w' : World} (h : TChg B w w') (hB : B <= w.heap.size) : Below B w w':=Chg.below h hB (fun _ _ hk => hk.1)
theorem TChg.map {B b : Nat} {w w' : World} (h : w.mapTurned w' b) (hb : B <= b) : TChg B w w':=by
 refine (turned_chg h).mono (fun i _ e => ?_)
 subst e
 obtain ⟨es,cl,_,_,h1,_⟩:=h
 exact ⟨hb,.inr ⟨es,cl,h1⟩⟩
variable {w : World} {L B t mb c : Nat} {F G : Nat -> Nat} {T : Tr}
theorem TreeIn.ltF (h : TreeIn w L B t mb F G T) {i : Nat} {x : It} (hx : getK i T = some x) : F i < w.heap.size:=(h.item i x hx).lt
theorem TreeIn.ltG (h : TreeIn w L B t mb F G T) {i : Nat} {x : It} (hx : getK i T = some x) (hk : x.n.kind = 2) : G i < w.heap.size:=(h.item i x hx).ltn hk
theorem TreeIn.ne (h : TreeIn w L B t mb F G T) : T.Pairwise (fun p q => p.1 ≠ q.1):=h.uniq.imp (fun {a b} hab => by omega)
theorem make_put {w1 w : World} {id : Nat} {x : It} (h1 : TreeIn w1 L B t mb F G T) (hb : Below w1.heap.size w1 w) (hI : ItAt w L w1.heap.size w1.heap.size (w1.heap.size + 1) x) (hnew : getK id T = none) (hid : id <= 1000000) (hlen : T.length <= 1000) :
  ∃ w',(Instr.mapUpdate 186 (.map (some mb)) (.int .i64 (id : Int)) (.pointer (some ⟨w1.heap.size,0,none⟩))).run Tryz.prog w = .ok () w' /\
   TreeIn w' L B t mb (upd F id w1.heap.size) (upd G id (w1.heap.size + 1)) (putK numS id x T) /\ w.mapTurned w' mb:=by
 have h:=h1.below hb
 obtain ⟨w',hr,hM,ht⟩:=h.map.put numS dkeyed ikeyed_ty (by rw [vals_len]; omega) (dkey id (by omega)) (.pointer (some ⟨w1.heap.size,0,none⟩))
 have hc:=turned_chg ht
 have hmlt:=h1.map.lt
 refine ⟨w',hr,TreeIn.addItem h hc ?_ (fun j y hy => ?_) (fun hk => ⟨by omega,fun j y hy hyk => ?_⟩) ?_,ht⟩
 ·have h1tge:=h1.tge
  have h1lt:=h1.lt
  exact (hI.chg hc (fun k _ e C hC => by
   subst e
   obtain ⟨es,cl,hm,_⟩:=h.map
   rw [hm] at hC; injection hC with hC; cases hC) (by omega) (fun _ => by omega)).weaken (by omega)
 ·have:=h1.ltF hy; omega
 ·have:=h1.ltG hy hyk; omega
 ·have e1 : vals (ival F) T = vals (ival (upd F id w1.heap.size)) T:=vals_congr (fun k v hk => by
   unfold ival upd
   rw [if_neg (fun e => by rw [e,hnew] at hk; cases hk)]) h.ne
  have e2 : Value.pointer (some ⟨w1.heap.size,0,none⟩) = ival (upd F id w1.heap.size) id x:=by unfold ival upd; rw [if_pos rfl]
  rw [e1,e2,vals_put] at hM
  exact hM
theorem make_name {i id : Nat} {x : It} {s : List UInt8} (h : TreeIn w L B t mb F G T) (hx : getK i T = some x) (hk : x.n.kind = 2) (hs : s.length <= 1000000) (hn : x.names.length <= 100000) :
  ∃ w',(Instr.mapUpdate 190 (.map (some (G i))) (.string (strOf s)) (.int .i64 (id : Int))).run Tryz.prog w = .ok () w' /\
   TreeIn w' L B t mb F G (setT T i ⟨x.n,x.b,putK strS s id x.names⟩) /\ w.mapTurned w' (G i):=by
 obtain ⟨_,_,hM⟩:=h.dir hx hk
 obtain ⟨w',hr,hM2,ht⟩:=hM.put strS skeyed nkeyed_ty (by rw [vals_len]; omega) (skey s (by unfold maxLen; omega)) (.int .i64 (id : Int))
 have e : putK strS s (Value.int .i64 (id : Int)) (vals nval x.names) = vals nval (putK strS s id x.names):=vals_put strS nval x.names s id
 rw [e] at hM2
 exact ⟨w',hr,h.setNames hx hk (turned_chg ht) hM2,ht⟩
theorem map_len {b : Nat} {l : List (Nat × Value)} (h : MapAt numS Tryz.prog TI64 w b l) (n : Nat) (hn : l.length = n) : ∀ ty,(Builtin.len_ #[186] ty #[.map (some b)]).run Tryz.prog w = .ok (.int .i64 (n : Int)) w:=fun ty => by
 rw [<- hn]; exact h.len numS ikeyed_ty ty
def MakeV (r : Nat × Nat × Tr) : Value:=.tuple #[.int .i64 (r.1 : Int),.int .i64 (r.2.1 : Int)]
theorem make_any (h : TreeIn w L B t mb F G T) (ok : TrOk c T) (hc : c <= 60000) (a : Option Addr) (n cap : Nat) (p : List (List UInt8)) (hS : Ss w a n cap p) (hm : ∀ s ∈ p,s.length <= 1000000) (hn : n <= 100000) (kind : Nat) (hkind : kind = 1 ∨ kind = 2) :
  Calls Tryz.prog 47 #[.pointer (some ⟨t,0,none⟩),.slice a n cap,.int .i64 (kind : Int)] w fun e w' => e = .returned (MakeV (makeT c T p kind)) /\ (∃ F' G',TreeIn w' L B t mb F' G' (makeT c T p kind).2.2) /\ TChg B w w':=by
 have HF:=qh (tfine1_any (w:=w.alloc (.cells #[.slice a n cap] 31)) w.heap.size a n cap p (by rw [cell_new]; rfl) (hS.alloc _) hm)
 have HP:=qh (fun w' (hb : Below w.heap.size w w') => place_tree (h.below hb) ok hc a n cap p (hS.below hb) hm hn)
 have HT:=qh (fun w' (hb : Below w.heap.size w w') => h.below hb)
 have hE:=qh ((Ext.refl w).alloc (.cells #[.slice a n cap] 31))
 have HOK:=qh (aI ok (aI (placeT_ok ok p) (show fineP p = 0 -> (p.getLast?.getD []).length <= 1000000 from fun hf => by
  cases hl : p.getLast? with
  | none => simp
  | some s => exact hm s (List.mem_of_getLast? hl))))
 have hMk : makeT c T p kind = if fineP p ≠ 0 then (0,fineP p,T) else if (placeT T p).2 ≠ 0 then (0,(placeT T p).2,T) else match getK (placeT T p).1 T with
   | none => (0,20,T)
   | some x => if (getK (p.getLast?.getD []) x.names).isSome then (0,21,T) else if 64 <= T.length then (0,4,T)
    else (lfree T (c + 1) 1,0,setT (putK numS (lfree T (c + 1) 1) (freshIt (lfree T (c + 1) 1) kind) T) (placeT T p).1 ⟨x.n,x.b,putK strS (p.getLast?.getD []) (lfree T (c + 1) 1) x.names⟩):=rfl
 generalize makeT c T p kind = r at *
 have HMK:=qh hMk
 have htge:=h.tge
 clear hMk h ok hS hm
 generalize fineP p = f at *
 generalize placeT T p = q at *
 generalize p.getLast?.getD [] = s at *
 have hk30 : ∀ W : World,True:=fun _ => trivial
 by_cases h0 : f = 0
 rotate_left
 ·have h1 : ¬ (f : Int) = 0:=by omega
  have HR:=qh (show r = (0,f,T) by rw [HMK.out,if_pos h0])
  go_enter Tryz.func47,Tryz.ntmps47
  go_wp2_with fail
  refine HF.out.mono ?_
  rintro e w1 ⟨rfl,hb⟩
  have hE1:=qh (hE.out.step hb)
  go_wp2_with fail
  go_ret2
  exact ⟨by rw [HR.out]; rfl,⟨F,G,by rw [HR.out]; exact HT.out _ hE1.out.1⟩,TChg.of_below hE1.out.1⟩
 subst h0
 have HKD:=qh hkind
 obtain ⟨q1,q2⟩:=q
 by_cases h2 : q2 = 0
 rotate_left
 ·have h3 : ¬ (q2 : Int) = 0:=by omega
  have HR:=qh (show r = (0,q2,T) by rw [HMK.out,if_neg (by simp),if_pos h2])
  rw [placeV_no _ _ _ _ h2] at HP
  clear hkind
  rcases HKD.out with rfl | rfl
  all_goals (
   go_enter Tryz.func47,Tryz.ntmps47
   go_wp2_with fail
   refine HF.out.mono ?_
   rintro e w1 ⟨rfl,hb⟩
   have hE1:=qh (hE.out.step hb)
   have hP1:=qh (HP.out w1 hE1.out.1)
   go_wp2_with fail
   refine hP1.out.mono ?_
   rintro e w2 ⟨rfl,hb2⟩
   have hE2:=qh (hE1.out.step hb2)
   go_wp2_with fail
   go_ret2
   exact ⟨by rw [HR.out]; rfl,⟨F,G,by rw [HR.out]; exact HT.out _ hE2.out.1⟩,TChg.of_below hE2.out.1⟩)
 subst h2
 obtain ⟨x,hx,hxk,hq⟩:=HOK.out.2.1 rfl
 clear hq
 have hsl:=HOK.out.2.2 rfl
 simp only at hx
 rw [placeV_ok] at HP
 have HX:=qh (aI hx hxk)
 have hr1 : r = if (getK s x.names).isSome then (0,21,T) else if 64 <= T.length then (0,4,T)
    else (lfree T (c + 1) 1,0,setT (putK numS (lfree T (c + 1) 1) (freshIt (lfree T (c + 1) 1) kind) T) q1 ⟨x.n,x.b,putK strS s (lfree T (c + 1) 1) x.names⟩):=by
  rw [HMK.out,if_neg (by simp),if_neg (by simp)]
  simp only [hx]
 have HR1:=qh hr1
 have HSL:=qh hsl
 clear hx hxk hr1 HMK hsl
 have hkk : ∃ kd : Int,Hid (kd = (kind : Int)):=⟨_,qh rfl⟩
 clear hkk
 have h30 : ((!((kind : Int) == 1)) && (!((kind : Int) == 2))) = false:=by rcases hkind with rfl | rfl <;> rfl
 go_enter Tryz.func47,Tryz.ntmps47
 go_wp2_with fail
 refine HF.out.mono ?_
 rintro e w1 ⟨rfl,hb⟩
 have hE1:=qh (hE.out.step hb)
 have hP1:=qh (HP.out w1 hE1.out.1)
 clear hb
 go_upto_region 4 with fail
 go_cut [26] (fun v wx => v = .bool false /\ wx = w1)
 case first =>
  rcases hkind with rfl | rfl
  ·go_wp2_with fail
   go_meet
   exact ⟨rfl,rfl⟩
  ·go_wp2_with fail
   go_meet
   exact ⟨rfl,rfl⟩
 case rest =>
  obtain ⟨rfl,rfl⟩:=hcut
  clear h30 hkind
  go_wp2_with fail
  refine hP1.out.mono ?_
  rintro e w2 ⟨rfl,hb2⟩
  have hE2:=qh (hE1.out.step hb2)
  have HT2:=qh (HT.out _ hE2.out.1)
  have c0:=HT2.out.cell0
  obtain ⟨d1,d7,hM⟩:=HT2.out.dir HX.out.1 HX.out.2
  have hnl:=name_look hM s HSL.out
  clear hb2 hM d1 HT HP hP1 hE1 HF hE
  cases hg : getK s x.names with
  | some k =>
   rw [hg] at hnl
   simp only [Option.getD_some,Option.isSome_some] at hnl
   have HR:=qh (show r = (0,21,T) by rw [HR1.out,hg]; rfl)
   clear hg
   go_wp2_with fail
   go_ret2
   exact ⟨by rw [HR.out]; rfl,⟨F,G,by rw [HR.out]; exact HT2.out⟩,TChg.of_below hE2.out.1⟩
  | none =>
   rw [hg] at hnl
   simp only [Option.getD_none,Option.isSome_none] at hnl
   obtain ⟨len,hlen⟩:=qnm T.length
   have hml:=map_len HT2.out.map len (by rw [vals_len,hlen])
   have HLN:=qh hlen
   have HG:=qh hg
   clear hlen hg
   by_cases h64 : 64 <= len
   ·have h64' : (64 : Int) <= (len : Int):=by omega
    have HR:=qh (show r = (0,4,T) by rw [HR1.out,HG.out]; simp only [Option.isSome_none,Bool.false_eq_true,if_false]; rw [if_pos (by rw [<- HLN.out]; exact h64)])
    go_wp2_with fail
    go_ret2
    exact ⟨by rw [HR.out]; rfl,⟨F,G,by rw [HR.out]; exact HT2.out⟩,TChg.of_below hE2.out.1⟩
   ·have h64' : ¬ (64 : Int) <= (len : Int):=by omega
    have HR:=qh (show r = (lfree T (c + 1) 1,0,setT (putK numS (lfree T (c + 1) 1) (freshIt (lfree T (c + 1) 1) kind) T) q1 ⟨x.n,x.b,putK strS s (lfree T (c + 1) 1) x.names⟩) by
     rw [HR1.out,HG.out]; simp only [Option.isSome_none,Bool.false_eq_true,if_false]; rw [if_neg (by rw [<- HLN.out]; exact h64)])
    have H64:=qh h64
    have hlf:=qh (lfree_free HOK.out.1 (c + 1) 1 (by omega) (by omega))
    obtain ⟨lf,hlf0⟩:=qnm (lfree T (c + 1) 1)
    rw [<- hlf0] at HR hlf
    have HLF0:=qh hlf0
    clear HR1 h64 hlf0
    go_wp2_with fail
    go_loopw [14] (fun iv wr => ∃ n i : Nat,iv = .int .i64 (i : Int) /\ lf = lfree T n i /\ i + n = c + 2 /\ i <= c + 1 /\ wr = w2) (fun iv _ => c + 2 - (intOf iv).toNat)
    case atStart => exact ⟨c + 1,1,rfl,HLF0.out,by omega,by omega,rfl⟩
    case round =>
     obtain ⟨n',i,rfl,hli,hni,hic,rfl⟩:=hrel
     cases n' with
     | zero => omega
     | succ n' =>
      unfold lfree at hli
      cases hgi : getK i T with
      | some y =>
       rw [hgi] at hli
       simp only [Option.isSome_some,if_true] at hli
       have hhit:=HT2.out.hit hgi (by omega)
       have hic2 : i <= c:=(HOK.out.1.nd i y hgi).1
       obtain ⟨i2,hi2⟩:=qnm (i + 1)
       have e3 : IntKind.i64.wrap ((i : Int) + 1) = (i2 : Int):=by rw [IntWalk.i64_in _ (by omega)]; omega
       have HI:=qh (aI hli (aI hni (aI hi2 hic2)))
       clear hli hni hi2 hic hgi hic2
       go_wp2_with fail
       go_roundw
       case rel =>
        obtain ⟨hli,hni,hi2,hic2⟩:=HI.out
        exact ⟨n',i2,rfl,by rw [hi2]; exact hli,by omega,by omega,trivial⟩
       case measure =>
        obtain ⟨hli,hni,hi2,hic2⟩:=HI.out
        show c + 2 - (i2 : Int).toNat < c + 2 - (i : Int).toNat
        omega
      | none =>
       rw [hgi] at hli
       simp only [Option.isSome_none,Bool.false_eq_true,if_false] at hli
       subst hli
       have hmiss:=HT2.out.miss hgi (by omega)
       have HFREE:=qh hgi
       have HIDL:=qh (show lf <= 1000000 by omega)
       have HLEN:=qh (show T.length <= 1000 by have:=HLN.out; have:=H64.out; omega)
       have HTL:=qh HT2.out.lt
       have HT1:=qh (HT2.out.below (Below.refl _ _).drew)
       have hmge:=qh HT2.out.mge
       clear hni hic hgi hml hnl
       go_upto_region 17 with fail
       refine heldB_start (fun i => [0,1,2,3,4,5,6,7].contains i) (fun w' => w'.cell? ⟨t,0,none⟩ = some (Value.map (some mb))) (by kernel_rfl) ?_ (fun hHeld => ?_)
       ·go_keep
       refine qtk 0 62 ?_
       simp only [qz0,qz1]
       refine qtk 1 63 ?_
       simp only [qz0,qz1]
       refine qtk 2 64 ?_
       simp only [qz0,qz1]
       refine qtk 3 65 ?_
       simp only [qz0,qz1]
       refine qtk 4 66 ?_
       simp only [qz0,qz1]
       refine qtk 5 67 ?_
       simp only [qz0,qz1]
       refine qtk 6 68 ?_
       simp only [qz0,qz1]
       refine qone 7 fun K hK => ?_
       go_simp
       refine (fresh_any L lf kind HKD.out _).mono ?_
       rintro e w2 ⟨rfl,hI2,hb2,hn2⟩
       have hHeld : ((fun w' => w'.cell? ⟨t,0,none⟩ = some (Value.map (some mb)))) w2:=(hb2.cell (p:=⟨t,0,none⟩) HTL.out).trans hHeld
       obtain ⟨w3,hr3,hT3,hC3⟩:=make_put HT1.out hb2 hI2 HFREE.out HIDL.out HLEN.out
       go_wp2_with fail
       refine hK.out _ _ (fun _ => hHeld) ?_
       clear hK K
       refine qone 8 fun K hK => ?_
       refine step_mapput (by rfl) (.tmp 65) (.tmp 66) (.tmp 69) 186 rfl _ _ _ (by rfl) (by rfl) (by rfl) hr3 ?_
       refine hK.out _ _ (fun h => by simp at h) ?_
       clear hK K
       refine qdon ?_
       have hq3 : getK q1 (putK numS lf (freshIt lf kind) T) = some x:=by
        rw [getK_put,if_neg (fun e => by rw [<- e,HX.out.1] at HFREE; cases HFREE.out)]
        exact HX.out.1
       have hxn:=(HOK.out.1.nd q1 x HX.out.1).2.2.2.2
       have hF3 : upd F lf wr.drew.heap.size q1 = F q1:=if_neg (fun e => by rw [<- e,HX.out.1] at HFREE; cases HFREE.out)
       obtain ⟨w4,hr4,hT4,hC4⟩:=make_name (id:=lf) hT3 hq3 HX.out.2 HSL.out (by omega)
       obtain ⟨_,d7,_⟩:=hT3.dir hq3 HX.out.2
       rw [hF3] at d7
       have hG3 : upd G lf (wr.drew.heap.size + 1) q1 = G q1:=if_neg (fun e => by rw [<- e,HX.out.1] at HFREE; cases HFREE.out)
       rw [hG3] at hr4 hC4 d7
       have hGe:=(HT2.out.item q1 x HX.out.1)
       have hge : B <= G q1:=by obtain ⟨_,v,m,_,_,k4,_⟩:=hGe; exact (k4 HX.out.2).2.1
       have HFIN:=qh (aI hT4 ((TChg.of_below (B:=B) hE2.out.1).trans ((TChg.of_below (B:=B) (Below.refl wr.heap.size wr).drew).trans ((TChg.of_below (B:=B) hb2).trans ((TChg.map hC3 hmge.out).trans (TChg.map hC4 hge))))))
       clear hT3 hC3 hT4 hC4 hHeld hI2 hb2 hn2 hr3 hq3 hxn hF3 hG3 hGe hge hmiss
       go_wp2_with (at_mapUpdate; refine wpList_mapput rfl _ _ _ _ (.inl rfl) _ _ _ rfl rfl rfl hr4 ?_)
       go_ret2
       exact ⟨by rw [HR.out]; rfl,⟨_,_,by rw [HR.out]; exact HFIN.out.1⟩,HFIN.out.2⟩
end
section
open Go.RowKit Go.ChangeMaps Go.MapKept
theorem wpList_mapdel {w w' : World} {ops : Array Oper} {rest : List Oper} {o : Oper} {a : Act} {Q : Exit -> Act -> World -> Prop} (hgd : o.guard = none) (m x : Operand) (t k : TypeId)
  (ho : o.op = .call { callee:=.builtin .delete,args:=#[m,x],argTypes:=#[t,k] }) (mv key : Value) (hm : a.eval m = mv) (hx : a.eval x = key) (hr : ∀ ty,(Builtin.delete_ #[t,k] ty #[mv,key]).run Tryz.prog w = .ok (.tuple #[]) w')
  (h : wpList Tryz.prog ops Q rest (a.put o.dst (.tuple #[])) w') : wpList Tryz.prog ops Q (o :: rest) a w:=by
 refine wpList_plain hgd fun K hK => ?_
 unfold Oper.wp
 simp [execOp,ho,resolve,invoke,builtin,hm,hx,hr,Result.andThen]
 exact hK _ _ h
variable {w : World} {L B t mb c : Nat} {F G : Nat -> Nat} {T : Tr}
def zeroC : Array Value:=#[.int .i64 0,.int .i64 0,.int .i64 0,.int .i64 0,.int .u64 0,.bool false]
theorem tnode_any (h : TreeIn w L B t mb F G T) (i : Nat) (x : It) (hx : getK i T = some x) (hi : i <= 1000000) :
  Calls Tryz.prog 119 #[.pointer (some ⟨t,0,none⟩),.int .i64 (i : Int)] w fun e w' => e = .returned (.tuple #[.agg x.n.cells,.bool true]) /\ Below w.heap.size w w':=by
 obtain ⟨w0,hw0⟩:=qnm (w.alloc (.cells zeroC 34))
 have hb0:=qba hw0
 have hz : w0.heap[w.heap.size]? = some (.cells zeroC 34 (0,0)):=by rw [hw0]; exact heap_alloc_new w _
 have h0:=h.below hb0
 have c0:=h0.cell0
 have hh:=h0.hit2 hx (by omega)
 obtain ⟨_,v,m,h2,_⟩:=h0.item i x hx
 obtain ⟨d0,d1,d2,d3,d4,d5,_,_⟩:=item_cells h2
 have HW:=qh hw0
 have hE:=qh (show Ext w.heap.size w w0 from ⟨hb0,hb0.size⟩)
 have g0:=cells_at hz 0
 have g1:=cells_at hz 1
 have g2:=cells_at hz 2
 have g3:=cells_at hz 3
 have g4:=cells_at hz 4
 have g5:=cells_at hz 5
 have hfz : ∀ j,w0.frozen? ⟨w.heap.size,j,none⟩ = false:=fun j => by simp [World.frozen?,hz]
 have f0:=hfz 0
 have f1:=hfz 1
 have f2:=hfz 2
 have f3:=hfz 3
 have f4:=hfz 4
 have f5:=hfz 5
 clear hfz h2 h0 h hx hb0 hz hw0
 unfold Nd.cells
 unfold zeroC at *
 simp only [List.getElem?_toArray,List.getElem?_cons_zero,List.getElem?_cons_succ] at g0 g1 g2 g3 g4 g5
 go_enter Tryz.func119,Tryz.ntmps119
 go_upto_region 1 with fail
 rw [<- HW.out]
 obtain ⟨N,hN⟩:=qnm w.heap.size
 rw [<- hN] at g0 g1 g2 g3 g4 g5 f0 f1 f2 f3 f4 f5 hE ⊢
 have HN:=qh hN
 clear hN HW
 go_wp2_with fail
 refine bodyPost_ret (v:=.tuple #[.agg #[.int .i64 x.n.id,.int .i64 x.n.kind,.int .i64 x.n.links,.int .i64 x.n.size,.int .u64 (x.n.til : Int),.bool x.n.closed],.bool true]) (by simp [results,Tryz.results119,go_sem,g0,g1,g2,g3,g4,g5]) rfl ⟨rfl,?_⟩
 rw [<- HN.out]
 refine Below.setCell (Below.setCell (Below.setCell (Below.setCell (Below.setCell (Below.setCell hE.out.1 ?_ _) ?_ _) ?_ _) ?_ _) ?_ _) ?_ _
 all_goals exact Nat.le_refl N
def fileT (T : Tr) (i : Nat) : Nat:=match getK i T with | none => 20 | some x => if x.n.kind = 2 then 22 else 0
def fileV (F : Nat -> Nat) (T : Tr) (i : Nat) : Value:=if fileT T i ≠ 0 then .tuple #[.pointer none,.int .i64 (fileT T i : Int)] else .tuple #[.pointer (some ⟨F i,0,none⟩),.int .i64 0]
theorem file_tree (h : TreeIn w L B t mb F G T) (ok : TrOk c T) (i : Nat) (hi : i <= 1000000) :
  Calls Tryz.prog 188 #[.pointer (some ⟨t,0,none⟩),.int .i64 (i : Int)] w fun e w' => e = .returned (fileV F T i) /\ w = w':=by
 have c0:=h.cell0
 cases hx : getK i T with
 | none =>
  have hV : fileV F T i = .tuple #[.pointer none,.int .i64 20]:=by simp [fileV,fileT,hx]
  rw [hV]
  have hh:=h.miss2 hx (by omega)
  clear h hx hV ok
  go_enter Tryz.func188,Tryz.ntmps188
  go_wp2_with fail
  go_ret2
  exact ⟨rfl,rfl⟩
 | some x =>
  have hh:=h.hit2 hx (by omega)
  obtain ⟨_,v,m,h2,_⟩:=h.item i x hx
  obtain ⟨_,d1,_⟩:=item_cells h2
  by_cases hk : x.n.kind = 2
  ·have hV : fileV F T i = .tuple #[.pointer none,.int .i64 22]:=by simp [fileV,fileT,hx,hk]
   rw [hV]
   rw [hk] at d1
   clear h hx hV hk h2 ok
   go_enter Tryz.func188,Tryz.ntmps188
   go_wp2_with fail
   go_ret2
   exact ⟨rfl,rfl⟩
  ·have hk1 : x.n.kind = 1:=by rcases ok.kind hx with h | h; exact h; exact absurd h hk
   have hV : fileV F T i = .tuple #[.pointer (some ⟨F i,0,none⟩),.int .i64 0]:=by simp [fileV,fileT,hx,hk]
   rw [hV]
   rw [hk1] at d1
   clear h hx hV hk h2 hk1 ok
   go_enter Tryz.func188,Tryz.ntmps188
   go_wp2_with fail
   go_ret2
   exact ⟨rfl,rfl⟩
def settleT (T : Tr) (i : Nat) : Tr:=match getK i T with | none => T | some x => if x.n.links = 0 /\ x.n.closed = true then delK i T else T
theorem settle_any (h : TreeIn w L B t mb F G T) (i : Nat) (x : It) (hx : getK i T = some x) (hid : x.n.id = (i : Int)) (hi : i <= 1000000) :
  Calls Tryz.prog 189 #[.pointer (some ⟨t,0,none⟩),.pointer (some ⟨F i,0,none⟩)] w fun e w' => e = .returned (.tuple #[]) /\ TreeIn w' L B t mb F G (settleT T i) /\ TChg B w w':=by
 have c0:=h.cell0
 obtain ⟨_,v,m,h2,_⟩:=h.item i x hx
 obtain ⟨d0,_,d2,_,_,d5,_⟩:=item_cells h2
 rw [hid] at d0
 by_cases hl : x.n.links = 0
 ·by_cases hc : x.n.closed = true
  ·have hS : settleT T i = delK i T:=by simp [settleT,hx,hl,hc]
   rw [hS]
   rw [hl] at d2
   rw [hc] at d5
   have HTD:=qh (h.below (Below.refl _ w).drew)
   have hmge:=qh h.mge
   clear h hx hS hl hc h2
   go_enter Tryz.func189,Tryz.ntmps189
   go_upto_region 1 with fail
   obtain ⟨w2,hr2,hM2,ht2⟩:=HTD.out.map.del numS dkeyed ikeyed_ty (dkey i (by omega)) 0
   rw [vals_del] at hM2
   have HF:=qh (aI (HTD.out.delItem (i:=i) (turned_chg ht2) hM2) (TChg.map ht2 hmge.out))
   have hr2 : ∀ ty,(Builtin.delete_ #[186,3] ty #[.map (some mb),.int .i64 (i : Int)]).run Tryz.prog w.drew = .ok (.tuple #[]) w2:=fun ty => hr2
   clear hM2 ht2
   refine wp_tailb 9 (by kernel_rfl) (by kernel_rfl) rfl ?_
   simp only [List.take_succ_cons,List.take_zero,List.drop_succ_cons,List.drop_zero,List.map_cons,List.map_nil,bare]
   repeat still_step
   refine wpStill_nil ?_
   go_wp2_with (at_builtin; refine wpList_mapdel rfl _ _ _ _ rfl _ _ rfl rfl hr2 ?_)
   go_end0
   exact ⟨rfl,HF.out.1,(TChg.of_below (Below.refl _ w).drew).trans HF.out.2⟩
  ·have hS : settleT T i = T:=by simp [settleT,hx,hc]
   rw [hS]
   have hc2 : x.n.closed = false:=by simpa using hc
   rw [hl] at d2
   rw [hc2] at d5
   have HT:=qh h
   clear h hx hS hl hc h2 hc2
   go_enter Tryz.func189,Tryz.ntmps189
   go_wp2_with fail
   go_end0
   exact ⟨rfl,HT.out,TChg.refl _ _⟩
 ·have hS : settleT T i = T:=by simp [settleT,hx,hl]
  rw [hS]
  obtain ⟨lk,hlk⟩:=qnm x.n.links
  rw [<- hlk] at hl d2
  have HT:=qh h
  clear h hx hS h2 hlk
  go_enter Tryz.func189,Tryz.ntmps189
  go_wp2_with fail
  go_end0
  exact ⟨rfl,HT.out,TChg.refl _ _⟩
end
end Go.Proofs.YtabdcphioccgnaaGreatDoor
