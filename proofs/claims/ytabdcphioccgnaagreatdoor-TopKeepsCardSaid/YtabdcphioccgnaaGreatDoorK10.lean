/- TreeLaw; TreeNew; Conv; WJ. -/
import Derived.Laws.IdiomStrings
import Derived.OwnWalk
import Derived.Test.YtabdcphioccgnaaGreatDoorK09
set_option maxRecDepth 100000
set_option maxHeartbeats 8000000
namespace Go.Proofs.YtabdcphioccgnaaGreatDoor
section
open Go.RowKit
set_option linter.unusedSectionVars false
def goodC (r : UInt8) : Bool:=(97 <= r && r <= 122) || (48 <= r && r <= 57) || r == 46 || r == 45 || r == 95
def goodN (s : List UInt8) : Bool:=s.all goodC && (!s.isEmpty && decide (s.length <= 16) && !(s == [46]) && !(s == [46,46]))
def fineP (p : List (List UInt8)) : Nat:=if p.any (fun s => !goodN s) then 12 else if 8 < p.length then 3 else 0
def lookT (T : Tr) : Nat -> List (List UInt8) -> Nat × Nat
 | i,[] => (i,0)
 | i,s :: p => match getK i T with
  | none => (0,20)
  | some x => if x.n.kind = 2 then (match getK s x.names with | none => (0,20) | some k => lookT T k p) else (0,23)
def freshIt (id kind : Nat) : It:=⟨⟨id,kind,1,0,0,decide (kind = 2)⟩,[],[]⟩
def lfree (T : Tr) : Nat -> Nat -> Nat
 | 0,i => i
 | n + 1,i => if (getK i T).isSome then lfree T n (i + 1) else i
def placeT (T : Tr) (p : List (List UInt8)) : Nat × Nat :=
 match p.getLast? with
 | none => (0,1)
 | some _ =>
  if (lookT T 0 p.dropLast).2 ≠ 0 then (0,(lookT T 0 p.dropLast).2)
  else match getK (lookT T 0 p.dropLast).1 T with
   | none => (0,20)
   | some x => if x.n.kind = 2 then ((lookT T 0 p.dropLast).1,0) else (0,23)
def makeT (c : Nat) (T : Tr) (p : List (List UInt8)) (kind : Nat) : Nat × Nat × Tr :=
 if fineP p ≠ 0 then (0,fineP p,T)
 else if (placeT T p).2 ≠ 0 then (0,(placeT T p).2,T)
 else match getK (placeT T p).1 T with
  | none => (0,20,T)
  | some x =>
   if (getK (p.getLast?.getD []) x.names).isSome then (0,21,T)
   else if 64 <= T.length then (0,4,T)
   else (lfree T (c + 1) 1,0,setT (putK numS (lfree T (c + 1) 1) (freshIt (lfree T (c + 1) 1) kind) T) (placeT T p).1 ⟨x.n,x.b,putK strS (p.getLast?.getD []) (lfree T (c + 1) 1) x.names⟩)
structure TrOk (c : Nat) (T : Tr) : Prop where
 root : ∃ x,getK 0 T = some x /\ x.n.kind = 2
 nd : ∀ i x,getK i T = some x -> i <= c /\ x.n.id = (i : Int) /\ x.n.Ok /\ (x.b.length : Int) = x.n.size /\ x.names.length <= c
 nm : ∀ i x s k,getK i T = some x -> getK s x.names = some k -> (∃ y,getK k T = some y) /\ k ≠ 0 /\ s.length <= 16
 len : T.length <= 64
theorem TrOk.kind {c : Nat} {T : Tr} (h : TrOk c T) {i : Nat} {x : It} (hx : getK i T = some x) : x.n.kind = 1 ∨ x.n.kind = 2:=by
 obtain ⟨_,_,h3,_⟩:=h.nd i x hx
 rcases h3.2.2.2.2 with h4 | h4
 ·exact .inl h4.1
 ·exact .inr h4.1
theorem lookT_ok {c : Nat} {T : Tr} (h : TrOk c T) : ∀ (p : List (List UInt8)) (i : Nat),(∃ x,getK i T = some x) -> (lookT T i p).2 = 0 -> ∃ x,getK (lookT T i p).1 T = some x
 | [],i,hi,_ => hi
 | s :: p,i,⟨x,hx⟩,h0 => by
  unfold lookT at h0 ⊢
  simp only [hx] at h0 ⊢
  by_cases hk : x.n.kind = 2
  ·simp only [hk,if_true] at h0 ⊢
   cases hs : getK s x.names with
   | none => simp [hs] at h0
   | some k =>
    simp only [hs] at h0 ⊢
    exact lookT_ok h p k (h.nm i x s k hx hs).1 h0
  ·simp [hk] at h0
theorem placeT_ok {c : Nat} {T : Tr} (_h : TrOk c T) (p : List (List UInt8)) (h0 : (placeT T p).2 = 0) : ∃ x,getK (placeT T p).1 T = some x /\ x.n.kind = 2 /\ (placeT T p).1 = (lookT T 0 p.dropLast).1:=by
 unfold placeT at h0 ⊢
 cases hl : p.getLast? with
 | none => simp [hl] at h0
 | some s =>
  simp only [hl] at h0 ⊢
  by_cases h2 : (lookT T 0 p.dropLast).2 ≠ 0
  ·rw [if_pos h2] at h0; exact absurd h0 h2
  ·rw [if_neg h2] at h0 ⊢
   cases hg : getK (lookT T 0 p.dropLast).1 T with
   | none => simp [hg] at h0
   | some x =>
    simp only [hg] at h0 ⊢
    by_cases hk : x.n.kind = 2
    ·simp only [hk,if_true]; exact ⟨x,hg,hk,trivial⟩
    ·simp [hk] at h0
theorem lfree_free {c : Nat} {T : Tr} (h : TrOk c T) : ∀ (n i : Nat),i + n = c + 2 -> i <= c + 1 -> getK (lfree T n i) T = none /\ i <= lfree T n i /\ lfree T n i <= c + 1
 | 0,i,hn,hi => by omega
 | n + 1,i,hn,hi => by
  unfold lfree
  cases hg : getK i T with
  | none => simp; exact ⟨hg,by omega⟩
  | some x =>
   simp only [Option.isSome_some,if_true]
   have:=(h.nd i x hg).1
   obtain ⟨h1,h2,h3⟩:=lfree_free h n (i + 1) (by omega) (by omega)
   exact ⟨h1,by omega,h3⟩
theorem goodN_len {s : List UInt8} (h : goodN s = true) : s.length <= 16:=by
 unfold goodN at h
 simp at h
 exact h.2.1.1.2
end
section
open Go.RowKit Go.ChangeMaps Go.MapKept
theorem wpList_mapput {w w' : World} {ops : Array Oper} {rest : List Oper} {o : Oper} {a : Act} {Q : Exit -> Act -> World -> Prop} (hgd : o.guard = none) (m x v : Operand) (t : TypeId)
  (ho : o.op = Op.mapUpdate t m x v ∨ o.op = Op.insert t m x v) (mv key val : Value) (hm : a.eval m = mv) (hx : a.eval x = key) (hv : a.eval v = val) (hr : (Instr.mapUpdate t mv key val).run Tryz.prog w = .ok () w')
  (h : wpList Tryz.prog ops Q rest (a.put o.dst undef) w') : wpList Tryz.prog ops Q (o :: rest) a w:=by
 refine wpList_plain hgd fun K hK => ?_
 unfold Oper.wp
 rcases ho with ho | ho <;> simp [execOp,ho,hm,hx,hv,hr,Result.andThen] <;> exact hK _ _ h
theorem item_cells {w : World} {g : Nat} {n : Nd} {v m : Value} (h : w.heap[g]? = some (.cells (itC n v m) TItem (0,0))) :
  w.cell? ⟨g,0,none⟩ = some (.int .i64 n.id) /\ w.cell? ⟨g,1,none⟩ = some (.int .i64 n.kind) /\ w.cell? ⟨g,2,none⟩ = some (.int .i64 n.links) /\ w.cell? ⟨g,3,none⟩ = some (.int .i64 n.size) /\ w.cell? ⟨g,4,none⟩ = some (.int .u64 (n.til : Int)) /\
   w.cell? ⟨g,5,none⟩ = some (.bool n.closed) /\ w.cell? ⟨g,6,none⟩ = some v /\ w.cell? ⟨g,7,none⟩ = some m :=
 ⟨cells_at h 0,cells_at h 1,cells_at h 2,cells_at h 3,cells_at h 4,cells_at h 5,cells_at h 6,cells_at h 7⟩
theorem setCell_heap {w : World} {b i : Nat} {C : Array Value} {t : TypeId} (h : w.heap[b]? = some (.cells C t (0,0))) (u : Value) : (w.setCell ⟨b,i,none⟩ u).heap[b]? = some (.cells (C.setIfInBounds i u) t (0,0)):=by
 simp only [World.setCell,Array.getElem?_modify,if_pos]
 rw [h]
 rfl
theorem fresh_any (L id kind : Nat) (hk : kind = 1 ∨ kind = 2) (w : World) :
  Calls Tryz.prog 116 #[.int .i64 (id : Int),.int .i64 (kind : Int)] w fun e w' => e = .returned (.pointer (some ⟨w.heap.size,0,none⟩)) /\ ItAt w' L w.heap.size w.heap.size (w.heap.size + 1) (freshIt id kind) /\ Below w.heap.size w w' /\ (kind = 2 -> w.heap.size + 1 < w'.heap.size):=by
 rcases hk with rfl | rfl
 ·have hI : ItAt (w.alloc (.cells (itC (freshIt id 1).n (.slice none 0 0) (.map none)) TItem)) L w.heap.size w.heap.size (w.heap.size + 1) (freshIt id 1) :=
   ⟨Nat.le_refl _,_,_,heap_alloc_new w _,Own.nil _ _,fun h => absurd h (by simp [freshIt]),fun _ => ⟨rfl,rfl⟩⟩
  have HI:=qh (aI hI (Below.alloc (Below.refl w.heap.size w) (Nat.le_refl _) (.cells (itC (freshIt id 1).n (.slice none 0 0) (.map none)) TItem)))
  clear hI
  go_enter Tryz.func116,Tryz.ntmps116
  go_wp2_with fail
  go_ret
  exact ⟨rfl,HI.out.1,HI.out.2,fun h => absurd h (by omega)⟩
 ·have hmm:=@run_makeMap Tryz.prog
  have hh:=(Below.heap_alloc (w.alloc (.cells (itC (freshIt id 2).n (.slice none 0 0) (.map (some (w.heap.size + 1)))) TItem)) (.map #[] 0) w.heap.size (by simp)).trans (heap_alloc_new w _)
  have hM:=MapAt.made strS (P:=Tryz.prog) (k:=TStr) (w.alloc (.cells (itC (freshIt id 2).n (.slice none 0 0) (.map (some (w.heap.size + 1)))) TItem))
  simp only [World.size_alloc] at hM
  have hI : ItAt ((w.alloc (.cells (itC (freshIt id 2).n (.slice none 0 0) (.map (some (w.heap.size + 1)))) TItem)).alloc (.map #[] 0)) L w.heap.size w.heap.size (w.heap.size + 1) (freshIt id 2) :=
   ⟨Nat.le_refl _,_,_,hh,Own.nil _ _,fun _ => ⟨rfl,by omega,hM⟩,fun h => absurd rfl h⟩
  have HI:=qh (aI hI (show Below w.heap.size w _ from (((Ext.refl w).alloc (.cells (itC (freshIt id 2).n (.slice none 0 0) (.map (some (w.heap.size + 1)))) TItem)).alloc (.map #[] 0)).1))
  clear hI hh hM
  go_enter Tryz.func116,Tryz.ntmps116
  go_wp2_with fail
  go_ret
  exact ⟨rfl,HI.out.1,HI.out.2,fun _ => by simp⟩
theorem ikeyed_ty : Tryz.prog.underlying 186 = some (.map TI64 189):=Tryz.underlying186
theorem tnew_any (L : Nat) (w : World) :
  Calls Tryz.prog 100 #[] w fun e w' => ∃ t,e = .returned (.pointer (some ⟨t,0,none⟩)) /\ TreeAt w' L w.heap.size t [(0,freshIt 0 2)] /\ Below w.heap.size w w':=by
 have hmm:=@run_makeMap Tryz.prog
 have HF:=qh (fresh_any L 0 2 (.inr rfl) (w.alloc (.map #[] 0)))
 have HM:=qh (MapAt.made numS (P:=Tryz.prog) (k:=TI64) w)
 have hE:=qh ((Ext.refl w).alloc (.map #[] 0))
 go_enter Tryz.func100,Tryz.ntmps100
 go_wp2_with fail
 refine HF.out.mono ?_
 rintro e w1 ⟨rfl,hI,hb,hlt⟩
 have hM1:=HM.out.below numS hb
 obtain ⟨w2,hr,hM2,ht⟩:=hM1.put numS dkeyed ikeyed_ty (by simp) (dkey 0 (by omega)) (.pointer (some ⟨w.heap.size + 1,0,none⟩))
 simp only [World.size_alloc] at hr hI hb hlt
 have hc2:=turned_chg ht
 have hI2 : ItAt w2 L (w.heap.size + 1) (w.heap.size + 1) (w.heap.size + 2) (freshIt 0 2):=hI.chg hc2 (fun k _ e C hC => by
  subst e
  obtain ⟨es,cl,hm,_⟩:=hM1
  rw [hm] at hC; injection hC with hC; cases hC) (by omega) (fun _ => by omega)
 have hE2 : Ext w.heap.size w w2:=⟨((hE.out.step (by simpa using hb)).1).trans (hc2.below (by have:=hb.size; simp at this; omega) (fun k _ e => by omega)),by have:=hc2.size; have:=hb.size; simp at this; omega⟩
 have hlt2:=hI2.lt
 have hltn:=hI2.ltn rfl
 have hT : TreeIn (w2.alloc (.cells #[.map (some w.heap.size)] TTree)) L w.heap.size w2.heap.size w.heap.size (fun _ => w.heap.size + 1) (fun _ => w.heap.size + 2) [(0,freshIt 0 2)]:=by
  have hba:=(Below.refl w2.heap.size w2).alloc (Nat.le_refl _) (.cells #[.map (some w.heap.size)] TTree)
  refine ⟨hE2.2,Nat.le_refl _,heap_alloc_new w2 _,hM2.below numS hba,fun i x hx => ?_,fun i x hx _ => by omega,fun i j x y hx hy _ => ?_,fun i j x y hx hy _ _ _ => ?_⟩
  ·have : i = 0 /\ x = freshIt 0 2:=by
    unfold getK at hx
    by_cases h0 : 0 = i
    ·subst h0; simp at hx; exact ⟨rfl,hx.symm⟩
    ·simp [h0] at hx
   obtain ⟨rfl,rfl⟩:=this
   exact (hI2.below hba).weaken (by omega)
  all_goals (
   have h1 : ∀ i (x : It),getK i [(0,freshIt 0 2)] = some x -> i = 0:=fun i x hx => by
    unfold getK at hx
    by_cases h0 : 0 = i
    ·exact h0.symm
    ·simp [h0] at hx
   rw [h1 i x hx,h1 j y hy])
 have HT:=qh (aI hT (hE2.alloc (.cells #[.map (some w.heap.size)] TTree)))
 clear hT hE2 hI2 hc2 hM1 hM2 ht hI hb hlt hlt2 hltn
 go_wp2_with (first
  | (refine wpList_mapput rfl _ _ _ _ (.inr rfl) _ _ _ rfl rfl rfl hr ?_))
 go_ret
 exact ⟨_,rfl,⟨_,_,_,HT.out.1⟩,HT.out.2.1⟩
end
section
open Go.RowKit
def convCap (w : World) (xs : List UInt8) : Nat:=grownCap w xs.length 0 TB
def convW (w : World) (xs : List UInt8) : World :=
 w.drew.alloc (.cells (bytesRow (strOf xs) (convCap w xs)) TB ((bytesRow (strOf xs) (convCap w xs)).size,(bytesRow (strOf xs) (convCap w xs)).size + 1))
theorem run_bytes (xs : List UInt8) (w : World) : (convert 9 30 (.string (strOf xs))).run Tryz.prog w = .ok (.slice (some ⟨w.heap.size,0,none⟩) xs.length (convCap w xs)) (convW w xs) :=
 run_bytes_of_string w 9 30 TB (strOf xs) Tryz.underlying9 Tryz.underlying30 Tryz.underlying5
theorem convW_below (w : World) (xs : List UInt8) : Below w.heap.size w (convW w xs):=((Below.refl _ _).drew).alloc (Nat.le_refl _) _
theorem convW_bs (w : World) (xs : List UInt8) (h : xs.length <= maxLen) : Bs (convW w xs) (some ⟨w.heap.size,0,none⟩) xs.length (convCap w xs) xs:=by
 refine Bs.newRow w.drew _ _ _ _ _ _ rfl (grownCap_ge _ _ _ _) (grownCap_le_maxLen _ _ _ _ h) ?_
 have e : (bytesRow (strOf xs) (convCap w xs)).toList = xs.map bv ++ List.replicate (convCap w xs - xs.length) (.int .u8 0):=by
  unfold bytesRow strOf bv
  simp [ByteArray.size]
 rw [e]
 exact List.take_left' (by simp)
theorem wbytes_new {w W W' : World} {p q : Nat} {L : List UInt8} {len cap : Nat} {ys : List UInt8} (h : WI w p q W L) (hb : Below W.heap.size W W') (hy : Bs W' (some ⟨W.heap.size,0,none⟩) len cap ys) (hl : L.length + 65545 <= big) :
  Calls Tryz.prog 65 #[.pointer (some ⟨q,0,none⟩),.slice (some ⟨W.heap.size,0,none⟩) len cap] W' fun e w' => e = .returned (.tuple #[]) /\ WI w p q w' (L ++ lenBytes ys):=by
 obtain ⟨hE,g,hg⟩:=h
 refine (wbytes_any p q g L _ len cap ys W' (hg.below hb) hy ?_ hl).mono fun e w' ⟨h1,h2⟩ => ⟨h1,WI.post (hE.step hb) (hg.below hb) h2⟩
 intro _ ad had hk
 cases had
 rcases hk with hk | hk
 ·have h1:=hg.lt; have h2 : W.heap.size = q:=hk; omega
 ·subst hk; exact absurd hg.row_lt.1 (Nat.lt_irrefl _)
end
section
open Go.RowKit
def WJ (w w3 : World) (q : Nat) (g0 : Option Nat) (W : World) (L : List UInt8) : Prop:=Ext q w W /\ WPost w3 q q g0 L W
variable {w w3 W W' : World} {q : Nat} {g0 : Option Nat} {L : List UInt8}
theorem WJ.wi (h : WJ w w3 q g0 W L) : WI w q q W L:=by
 obtain ⟨hE,g,hW,_⟩:=h
 exact ⟨hE,g,hW⟩
theorem WJ.cell (h : WJ w w3 q g0 W L) {k o : Nat} (hk : k < w3.heap.size) (hq : k ≠ q) (hg : g0 ≠ some k) : W.cell? ⟨k,o,none⟩ = w3.cell? ⟨k,o,none⟩:=by
 obtain ⟨hE,g,hW,hC,_⟩:=h
 exact hC.cell hk (fun hs => by rcases hs with hs | hs; exact hq hs; exact hg hs)
theorem WJ.start_at (h : WI w q q W L) (hb : Below W.heap.size W W') : ∃ g0,WJ w W' q g0 W' L /\ (∀ k,g0 = some k -> k < W.heap.size) /\ q < W.heap.size:=by
 obtain ⟨hE,g,hW⟩:=h
 exact ⟨g,⟨hE.step hb,g,hW.below hb,Chg.refl _ _,.inl rfl⟩,fun k hk => by subst hk; exact hW.row_lt.1,hW.lt⟩
theorem WJ.nest_at (h : WJ w w3 q g0 W L) (hb : Below W.heap.size W W') : ∃ g1,WJ w W' q g1 W' L /\ (∀ k,g1 = some k -> k < W.heap.size) /\ q < W.heap.size /\ ∀ W2 L2,WJ w W' q g1 W2 L2 -> WJ w w3 q g0 W2 L2:=by
 obtain ⟨hE,g,hW,hC,hg⟩:=h
 exact ⟨g,⟨hE.step hb,g,hW.below hb,Chg.refl _ _,.inl rfl⟩,fun k hk => by subst hk; exact hW.row_lt.1,hW.lt,fun W2 L2 h2 => ⟨h2.1,WPost.trans (hC.step hb) hg h2.2⟩⟩
theorem WJ.post {L' : List UInt8} {g : Option Nat} (hE : Ext q w W) (hW : Wr W q q g L) (hC : Chg (WS q g0) w3 W) (hg : g = g0 ∨ ∃ k,g = some k /\ w3.heap.size <= k) (hP : WPost W q q g L' W') : WJ w w3 q g0 W' L':=by
 refine ⟨?_,WPost.trans hC hg hP⟩
 obtain ⟨g2,h1,h2,h3⟩:=hP
 exact hE.to (hW.belowOf h2)
theorem wshort_j (n : Nat) (h : WJ w w3 q g0 W L) (hn : n <= 9223372036854775807) (hl : L.length + 8 <= big) :
  Calls Tryz.prog 66 #[.pointer (some ⟨q,0,none⟩),.int .i64 (n : Int)] W fun e w' => e = .returned (.tuple #[]) /\ WJ w w3 q g0 w' (L ++ be n 2):=by
 obtain ⟨hE,g,hW,hC,hg⟩:=h
 exact (wshort_any q q n g L W hW hn hl).mono fun e w' ⟨h1,h2⟩ => ⟨h1,WJ.post hE hW hC hg h2⟩
theorem wbytes_j {a : Option Addr} {len cap : Nat} {ys : List UInt8} (h : WJ w w3 q g0 W L) (hb : Below W.heap.size W W') (hy : Bs W' a len cap ys) (hap : 0 < len -> ∀ ad,a = some ad -> ad.block < q ∨ W.heap.size <= ad.block) (hl : L.length + 65545 <= big) :
  Calls Tryz.prog 65 #[.pointer (some ⟨q,0,none⟩),.slice a len cap] W' fun e w' => e = .returned (.tuple #[]) /\ WJ w w3 q g0 w' (L ++ lenBytes ys):=by
 obtain ⟨hE,g,hW,hC,hg⟩:=h
 refine (wbytes_any q q g L a len cap ys W' (hW.below hb) hy ?_ hl).mono fun e w' ⟨h1,h2⟩ => ⟨h1,WJ.post (hE.step hb) (hW.below hb) (hC.step hb) hg h2⟩
 intro h0 ad had hk
 have h1:=hW.lt
 rcases hk with hk | hk
 ·rcases hap h0 ad had with h2 | h2 <;> omega
 ·subst hk
  have h3:=hW.row_lt
  rcases hap h0 ad had with h2 | h2 <;> omega
end
end Go.Proofs.YtabdcphioccgnaaGreatDoor
