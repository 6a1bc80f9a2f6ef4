/- IMap; Clone; Reader. -/
import Derived.Maps.Ext
import Derived.Maps.Own
import Derived.Maps.OwnSet
import Derived.Maps.RangeWalk
import Derived.WalkSpells
import Derived.Test.YtabdcphioccgnaaGreatDoorK03
set_option maxRecDepth 100000
set_option maxHeartbeats 8000000
namespace Go.Proofs.YtabdcphioccgnaaGreatDoor
section
open Go.RowKit
open Go.Maps (Keyed)
set_option linter.unusedSectionVars false
def RH (v : Value) : Option (DataW Value × List MemPlace):=some (.held v,[])
section
variable {κ : Type} [DecidableEq κ]
structure Spell (κ : Type) where
 lit : κ -> Lit
 lt : κ -> κ -> Bool
 inj : ∀ a b,(lit a).sameKey (lit b) = true ↔ a = b
 before : ∀ a b,(lit a).before (lit b) = lt a b
variable (S : Spell κ)
def insK {α : Type} (x : κ × α) : List (κ × α) -> List (κ × α)
 | [] => [x]
 | y :: r => if S.lt x.1 y.1 then x :: y :: r else y :: insK x r
def putK {α : Type} (k : κ) (v : α) (L : List (κ × α)) : List (κ × α):=insK S (k,v) (L.filter fun p => !decide (p.1 = k))
def delK {α : Type} (k : κ) (L : List (κ × α)) : List (κ × α):=L.filter fun p => !decide (p.1 = k)
def getK {α : Type} (k : κ) (L : List (κ × α)) : Option α:=(L.find? fun p => decide (p.1 = k)).map (·.2)
def mapK (L : List (κ × Value)) : DataW Value:=.map (L.map fun p => (S.lit p.1,.held p.2))
theorem same_dec (a b : κ) : (S.lit a).sameKey (S.lit b) = decide (a = b):=by
 rw [Bool.eq_iff_iff,S.inj]; simp
theorem insert_map (x : κ × Value) (L : List (κ × Value)) : DataW.insert (S.lit x.1,DataW.held x.2) (L.map fun p => (S.lit p.1,DataW.held p.2)) = (insK S x L).map fun p => (S.lit p.1,DataW.held p.2):=by
 induction L with
 | nil => rfl
 | cons y r ih =>
  simp only [List.map_cons,DataW.insert,insK,S.before]
  split
  ·rfl
  ·rw [List.map_cons,ih]
theorem filter_map (k : κ) (L : List (κ × Value)) : (L.map fun p => (S.lit p.1,DataW.held p.2)).filter (fun p => !p.1.sameKey (S.lit k)) = (L.filter fun p => !decide (p.1 = k)).map fun p => (S.lit p.1,DataW.held p.2):=by
 rw [List.filter_map]
 congr 2
 funext p
 simp only [Function.comp_apply,same_dec]
theorem mapK_put (k : κ) (v : Value) (L : List (κ × Value)) : (mapK S L).put (S.lit k) (.held v) = mapK S (putK S k v L):=by
 unfold mapK putK
 simp only [DataW.put]
 rw [filter_map,insert_map S (k,v)]
theorem mapK_del (k : κ) (L : List (κ × Value)) : (mapK S L).del (S.lit k) = mapK S (delK k L):=by
 unfold mapK delK
 simp only [DataW.del]
 rw [filter_map]
theorem mapK_has (k : κ) (L : List (κ × Value)) : Maps.has (mapK S L) (S.lit k) = (getK k L).isSome:=by
 unfold mapK getK
 induction L with
 | nil => rfl
 | cons y r ih =>
  rw [Maps.has_eq] at ih ⊢
  simp only [List.map_cons,List.any_cons,same_dec,List.find?_cons]
  by_cases h : y.1 = k
  ·simp [h]
  ·simpa [h] using ih
theorem mapK_at (k : κ) (z : DataW Value) (L : List (κ × Value)) : (mapK S L).atKey (S.lit k) z = (match getK k L with | some v => .held v | none => z):=by
 unfold mapK getK
 induction L with
 | nil => rfl
 | cons y r ih =>
  simp only [DataW.atKey,List.map_cons,List.find?_cons,same_dec] at ih ⊢
  by_cases h : y.1 = k
  ·simp [h]
  ·simpa [h] using ih
theorem mapK_size (L : List (κ × Value)) : Maps.size (mapK S L) = L.length:=by simp [mapK,Maps.size]
theorem getK_put {α : Type} (k j : κ) (v : α) (L : List (κ × α)) : getK j (putK S k v L) = if j = k then some v else getK j L:=by
 unfold putK
 have h1 : ∀ (L : List (κ × α)),(∀ p ∈ L,p.1 ≠ k) -> getK j (insK S (k,v) L) = if j = k then some v else getK j L:=by
  intro L hL
  induction L with
  | nil =>
   by_cases h : j = k
   ·simp [insK,getK,h]
   ·have h' : ¬ k = j:=fun e => h e.symm
    simp [insK,getK,h,h']
  | cons y r ih =>
   have hr:=ih (fun p hp => hL p (List.mem_cons_of_mem _ hp))
   have hy:=hL y (List.mem_cons_self ..)
   unfold insK
   split
   ·by_cases h : j = k
    ·simp [getK,h]
    ·have h' : ¬ k = j:=fun e => h e.symm
     simp [getK,h,h']
   ·unfold getK at hr ⊢
    simp only [List.find?_cons]
    by_cases h : y.1 = j
    ·have : ¬ j = k:=by rw [<- h]; exact hy
     simp [h,this]
    ·simpa [h] using hr
 rw [h1 _ (fun p hp => by simpa using (List.mem_filter.1 hp).2)]
 by_cases h : j = k
 ·simp [h]
 ·simp only [h,if_false]
  unfold getK
  congr 1
  induction L with
  | nil => rfl
  | cons y r ih =>
   by_cases hy : y.1 = k
   ·have : ¬ k = j:=fun e => h e.symm
    simp [hy,ih,this]
   ·simp [hy,ih,List.find?_cons]
theorem getK_del {α : Type} (k j : κ) (L : List (κ × α)) : getK j (delK k L) = if j = k then none else getK j L:=by
 unfold delK getK
 rw [List.find?_filter]
 by_cases h : j = k
 ·rw [if_pos h]
  have e : (fun a : κ × α => decide ((!decide (a.1 = k)) = true /\ decide (a.1 = j) = true)) = fun _ => false:=by
   funext a
   subst h
   simp
  rw [e]
  simp
 ·rw [if_neg h]
  have e : (fun a : κ × α => decide ((!decide (a.1 = k)) = true /\ decide (a.1 = j) = true)) = fun a => decide (a.1 = j):=by
   funext a
   by_cases ha : a.1 = j
   ·simp [ha,h]
   ·simp [ha]
  rw [e]
variable {P : Program} {w : World} {b : Nat} {k : TypeId} {L : List (κ × Value)}
def MapAt (P : Program) (k : TypeId) (w : World) (b : Nat) (L : List (κ × Value)) : Prop:=w.ownsMap P k RH b L.length (mapK S L)
theorem MapAt.of {n : Nat} (h : w.ownsMap P k RH b n (mapK S L)) : MapAt S P k w b L:=by
 obtain ⟨es,clock,hb,F,_,hD⟩:=h
 refine ⟨es,clock,hb,F,?_,hD⟩
 have e:=congrArg Maps.size hD
 rw [mapK_size] at e
 simp only [Maps.size,length_sorted,List.length_map,Array.length_toList] at e
 omega
theorem MapAt.made (w : World) : MapAt S P k (w.alloc (.map #[] 0)) w.heap.size []:=World.ownsMap_made w P k RH
theorem MapAt.lt (h : MapAt S P k w b L) : b < w.heap.size:=World.ownsMap.lt h
theorem MapAt.kept {w' : World} {row : Option Nat} (h : MapAt S P k w b L) (hg : w.grownBy w' row) (hne : some b ≠ row) : MapAt S P k w' b L:=World.ownsMap.kept h hg hne
theorem MapAt.same {w' : World} (h : MapAt S P k w b L) (he : w'.heap[b]? = w.heap[b]?) : MapAt S P k w' b L:=by
 obtain ⟨es,clock,hb,F,hs,hD⟩:=h
 exact ⟨es,clock,he.trans hb,F,hs,hD⟩
theorem MapAt.below {w' : World} (h : MapAt S P k w b L) (hb : Below w.heap.size w w') : MapAt S P k w' b L:=h.same S (hb.block b h.lt)
variable {x : κ} {key : Value} {t e : TypeId}
theorem MapAt.look (h : MapAt S P k w b L) (K : Keyed P k) (ht : P.underlying t = some (.map k e)) {z : Value} (hz : (zeroValue e).run P w = .ok z w) (hkey : keyOf P k key = some (S.lit x)) :
  (Instr.lookup t (.map (some b)) key false).run P w = .ok ((getK x L).getD z) w:=by
 obtain ⟨v,ps,hr,hv⟩:=World.ownsMap.lookup h K ht hz (zd:=.held z) (zp:=[]) rfl hkey
 rw [mapK_at] at hv
 rw [hr]
 simp only [RH,Option.some.injEq,Prod.mk.injEq] at hv
 have hv:=hv.1
 cases hg : getK x L with
 | none => rw [hg] at hv; injection hv with hv; rw [hv]; rfl
 | some y => rw [hg] at hv; injection hv with hv; rw [hv]; rfl
theorem MapAt.look_ok (h : MapAt S P k w b L) (K : Keyed P k) (ht : P.underlying t = some (.map k e)) {z : Value} (hz : (zeroValue e).run P w = .ok z w) (hkey : keyOf P k key = some (S.lit x)) :
  (Instr.lookup t (.map (some b)) key true).run P w = .ok (.tuple #[(getK x L).getD z,.bool (getK x L).isSome]) w:=by
 obtain ⟨v,ps,hr,hv⟩:=World.ownsMap.look_ok h K ht hz (zd:=.held z) (zp:=[]) rfl hkey
 rw [mapK_at] at hv
 rw [mapK_has] at hr
 rw [hr]
 simp only [RH,Option.some.injEq,Prod.mk.injEq] at hv
 have hv:=hv.1
 cases hg : getK x L with
 | none => rw [hg] at hv; injection hv with hv; rw [hv]; rfl
 | some y => rw [hg] at hv; injection hv with hv; rw [hv]; rfl
theorem MapAt.put (h : MapAt S P k w b L) (K : Keyed P k) (ht : P.underlying t = some (.map k e)) (hn : L.length <= 1000000) (hkey : keyOf P k key = some (S.lit x)) (v : Value) :
  ∃ w',(Instr.mapUpdate t (.map (some b)) key v).run P w = .ok () w' /\ MapAt S P k w' b (putK S x v L) /\ w.mapTurned w' b:=by
 obtain ⟨w',hr,h1,h2⟩:=World.ownsMap.store h K ht (by unfold maxLen; omega) hkey (val:=v) (d:=.held v) (ps:=[]) rfl
 rw [mapK_put] at h1
 exact ⟨w',hr,MapAt.of S h1,h2⟩
theorem MapAt.del (h : MapAt S P k w b L) (K : Keyed P k) (ht : P.underlying t = some (.map k e)) (hkey : keyOf P k key = some (S.lit x)) (ty : TypeId) :
  ∃ w',(Builtin.delete_ #[t,k] ty #[.map (some b),key]).run P w = .ok (.tuple #[]) w' /\ MapAt S P k w' b (delK x L) /\ w.mapTurned w' b:=by
 obtain ⟨w',hr,h1,h2⟩:=World.ownsMap.drop h K ht hkey ty
 rw [mapK_del] at h1
 exact ⟨w',hr,MapAt.of S h1,h2⟩
theorem MapAt.len (h : MapAt S P k w b L) (ht : P.underlying t = some (.map k e)) (ty : TypeId) : (Builtin.len_ #[t] ty #[.map (some b)]).run P w = .ok (.int .i64 L.length) w:=by
 have:=World.ownsMap.len h ht ty
 rwa [mapK_size] at this
end
def strS : Spell (List UInt8) where
 lit s:=.string s
 lt:=bytesBefore
 inj a b:=by simp [Lit.sameKey]
 before _ _:=rfl
theorem strS_key {P : Program} {k : TypeId} (hk : P.underlying k = some .string) (s : List UInt8) (h : s.length <= maxLen) : keyOf P k (.string ⟨s.toArray⟩) = some (strS.lit s) :=
 by simp [keyOf,hk,mapKey,ByteArray.size,h,strS]
def numS : Spell Nat where
 lit n:=.int .i64 (n : Int)
 lt a b:=decide (a < b)
 inj a b:=by simp [Lit.sameKey]; omega
 before a b:=by simp [Lit.before]
theorem numS_key {P : Program} {k : TypeId} (hk : P.underlying k = some (.int .i64)) (n : Nat) (h : n <= 1000000000) : keyOf P k (.int .i64 (n : Int)) = some (numS.lit n) :=
 Maps.keyOf_int_mk hk (by simp [Lit.wf,IntKind.min,IntKind.max,IntKind.bits,IntKind.signed]; omega)
end
section
open Go.RowKit
def big : Nat:=140737488355328
theorem clone_any (a : Option Addr) (len cap : Nat) (xs : List UInt8) (w : World) (h : Bs w a len cap xs) (hl : len <= big) :
  Calls Tryz.prog 73 #[.slice a len cap] w fun e w' => ∃ v,e = .returned v /\ Own w' w.heap.size v xs /\ Below w.heap.size w w':=by
 have e1:=fun w => Lib.run_eql_slice_nil (P:=Tryz.prog) (w:=w)
 cases a with
 | none =>
  have h0 : len = 0:=by
   rcases h.2.2.2 with h0 | ⟨b,off,hh,_⟩
   ·exact h0
   ·cases hh
  subst h0
  obtain rfl:=List.length_eq_zero_iff.1 h.1
  go_enter Tryz.func73,Tryz.ntmps73
  go_wp2
  go_ret
  exact ⟨_,rfl,Own.nil _ _,Below.refl _ _⟩
 | some ad =>
  go_enter Tryz.func73,Tryz.ntmps73
  go_wp2_with (at_builtin; refine wpList_append_bytes rfl _ _ rfl (w.heap.size) _ [] rfl (Own.of_row (Row.made _ _ 0 0 [] rfl rfl (by omega) (by simp [maxLen]) rfl) (by simp)) (some ad) len cap xs rfl (h.alloc _) ?_ (by simp) ?_)
  ·unfold big at hl; simpa using hl
  intro v' w1 hown hg _
  have hE:=((Ext.refl w).alloc (.cells #[] TB)).grown hg (fun k hk => by simp [Value.ownBlock] at hk; omega)
  go_wp2_with fail
  go_ret
  exact ⟨_,rfl,by simpa using hown,hE.1⟩
def Rd (w : World) (B q : Nat) (rb : Option Nat) (xs : List UInt8) (why : Nat) : Prop :=
 B <= q /\ ∃ a cap,w.heap[q]? = some (.cells #[.slice a xs.length cap,.int .i64 (why : Int)] 296 (0,0)) /\ Bs w a xs.length cap xs /\ a.map (·.block) = rb /\ rb ≠ some q /\ ∀ k,rb = some k -> B <= k
theorem Rd.lt {w : World} {B q why : Nat} {rb : Option Nat} {xs : List UInt8} (h : Rd w B q rb xs why) : q < w.heap.size:=by
 obtain ⟨_,a,cap,h1,_⟩:=h
 exact (Array.getElem?_eq_some_iff.1 h1).1
def RS (q : Nat) (rb : Option Nat) (k : Nat) : Prop:=k = q ∨ rb = some k
theorem Rd.chg {w w' : World} {B q why : Nat} {rb : Option Nat} {xs : List UInt8} {S : Nat -> Prop} (h : Rd w B q rb xs why) (hc : Chg S w w') (hs : ∀ k,RS q rb k -> ¬ S k) : Rd w' B q rb xs why:=by
 have hlt:=h.lt
 obtain ⟨h0,a,cap,h1,h2,h3,h4,h5⟩:=h
 exact ⟨h0,a,cap,(hc.block q hlt (hs q (.inl rfl))).trans h1,hc.bs h2 (fun ad had => hs _ (.inr (by rw [<- h3,had]; rfl))),h3,h4,h5⟩
theorem Rd.below {w w' : World} {B q why : Nat} {rb : Option Nat} {xs : List UInt8} (h : Rd w B q rb xs why) (hb : Below w.heap.size w w') : Rd w' B q rb xs why :=
 h.chg (Chg.of_below hb (fun _ => False)) (fun _ _ => id)
def rdRaw (s : List UInt8 × Nat) (n : Int) : List UInt8 × (List UInt8 × Nat) :=
 if s.2 ≠ 0 then ([],s) else if (s.1.length : Int) < n then ([],(s.1,10)) else if n < 1 then ([],s) else (s.1.take n.toNat,(s.1.drop n.toNat,0))
def RPost (w : World) (B q : Nat) (rb : Option Nat) (s : List UInt8 × Nat) (w' : World) : Prop :=
 Rd w' B q rb s.1 s.2 /\ Chg (fun k => k = q) w w'
theorem RPost.trans {w w1 w2 : World} {B q : Nat} {rb : Option Nat} {s : List UInt8 × Nat} (hc : Chg (fun k => k = q) w w1) (h : RPost w1 B q rb s w2) : RPost w B q rb s w2 :=
 ⟨h.1,hc.trans h.2 (fun _ _ h => h)⟩
theorem two_cells {w : World} {b : Nat} {u v : Value} {t : TypeId} (h : w.heap[b]? = some (.cells #[u,v] t (0,0))) :
  w.cell? ⟨b,0,none⟩ = some u /\ w.cell? ⟨b,1,none⟩ = some v /\ w.frozen? ⟨b,0,none⟩ = false /\ w.frozen? ⟨b,1,none⟩ = false:=by simp [World.cell?,World.frozen?,h]
theorem two_set0 {w : World} {b : Nat} {u v x : Value} {t : TypeId} (h : w.heap[b]? = some (.cells #[u,v] t (0,0))) : (w.setCell ⟨b,0,none⟩ x).heap[b]? = some (.cells #[x,v] t (0,0)):=by
 simp [World.setCell,Array.getElem?_modify,h]
theorem two_set1 {w : World} {b : Nat} {u v x : Value} {t : TypeId} (h : w.heap[b]? = some (.cells #[u,v] t (0,0))) : (w.setCell ⟨b,1,none⟩ x).heap[b]? = some (.cells #[u,x] t (0,0)):=by
 simp [World.setCell,Array.getElem?_modify,h]
theorem Rd.set_why {w : World} {B q why : Nat} {rb : Option Nat} {xs : List UInt8} (h : Rd w B q rb xs why) (y : Nat) : RPost w B q rb (xs,y) (w.setCell ⟨q,1,none⟩ (.int .i64 (y : Int))):=by
 have hc : Chg (fun k => k = q) w (w.setCell ⟨q,1,none⟩ (.int .i64 (y : Int))):=Chg.setCell (S:=fun k => k = q) (p:=⟨q,1,none⟩) (Chg.refl _ _) (fun _ => rfl) _
 obtain ⟨h0,a,cap,h1,h2,h3,h4,h5⟩:=h
 refine ⟨⟨h0,a,cap,two_set1 h1,hc.bs h2 (fun ad had e => h4 ?_),h3,h4,h5⟩,hc⟩
 rw [<- h3,had,<- e]; rfl
theorem rraw_err (B q : Nat) (rb : Option Nat) (xs : List UInt8) (why : Nat) (n : Int) (w : World) (h : Rd w B q rb xs why) (hw : why ≠ 0) :
  Calls Tryz.prog 147 #[.pointer (some ⟨q,0,none⟩),.int .i64 n] w fun e w' => e = .returned (.slice none 0 0) /\ w = w':=by
 obtain ⟨h0,a,cap,h1,h2,h3,h4,h5⟩:=h
 obtain ⟨c0,c1,f0,f1⟩:=two_cells h1
 have e1 : ((why : Int) == 0) = false:=by rw [beq_eq_false_iff_ne]; omega
 have e2 : ((why : Int) != 0) = true:=by rw [bne_iff_ne]; omega
 clear hw h3 h4 h5
 go_enter Tryz.func147,Tryz.ntmps147
 go_wp2_with fail
 go_ret
 exact ⟨rfl,rfl⟩
theorem rraw_end (B q : Nat) (rb : Option Nat) (xs : List UInt8) (n : Int) (w : World) (h : Rd w B q rb xs 0) (hn : (xs.length : Int) < n) :
  Calls Tryz.prog 147 #[.pointer (some ⟨q,0,none⟩),.int .i64 n] w fun e w' => e = .returned (.slice none 0 0) /\ RPost w B q rb (xs,10) w':=by
 have hP:=h.set_why 10
 obtain ⟨h0,a,cap,h1,h2,h3,h4,h5⟩:=h
 obtain ⟨c0,c1,f0,f1⟩:=two_cells h1
 clear h3 h4 h5
 go_enter Tryz.func147,Tryz.ntmps147
 go_wp2_with fail
 go_ret
 exact ⟨rfl,hP⟩
theorem rraw_none (B q : Nat) (rb : Option Nat) (xs : List UInt8) (n : Int) (w : World) (h : Rd w B q rb xs 0) (hn : n < 1) :
  Calls Tryz.prog 147 #[.pointer (some ⟨q,0,none⟩),.int .i64 n] w fun e w' => e = .returned (.slice none 0 0) /\ w = w':=by
 obtain ⟨h0,a,cap,h1,h2,h3,h4,h5⟩:=h
 obtain ⟨c0,c1,f0,f1⟩:=two_cells h1
 have hd : decide ((xs.length : Int) < n) = false:=by simp; omega
 clear h3 h4 h5
 go_enter Tryz.func147,Tryz.ntmps147
 go_wp2_with fail
 go_ret
 exact ⟨rfl,rfl⟩
theorem Rd.advance {w w1 : World} {B q why : Nat} {rb : Option Nat} {xs ys : List UInt8} (h : Rd w B q rb xs why) (hb : Below w.heap.size w w1) {a1 : Option Addr} {len cap1 : Nat} (hD : Bs w1 a1 len cap1 ys) (ha : a1.map (·.block) = rb) :
  RPost w B q rb (ys,why) (w1.setCell ⟨q,0,none⟩ (.slice a1 len cap1)):=by
 have hlt:=h.lt
 have hc : Chg (fun k => k = q) w1 (w1.setCell ⟨q,0,none⟩ (.slice a1 len cap1)):=Chg.setCell (S:=fun k => k = q) (p:=⟨q,0,none⟩) (Chg.refl _ _) (fun _ => rfl) _
 obtain ⟨h0,a,cap,h1,h2,h3,h4,h5⟩:=h
 obtain rfl:=hD.1
 refine ⟨⟨h0,a1,cap1,two_set0 ((hb.block q hlt).trans h1),hc.bs hD (fun ad had e => h4 ?_),ha,h4,h5⟩,(Chg.of_below hb _).trans hc (fun _ _ h => h)⟩
 rw [<- ha,had,<- e]; rfl
theorem rraw_some (B q : Nat) (rb : Option Nat) (xs : List UInt8) (n : Nat) (w : World) (h : Rd w B q rb xs 0) (hn : 1 <= n) (hl : n <= xs.length) (hb : xs.length <= big) :
  Calls Tryz.prog 147 #[.pointer (some ⟨q,0,none⟩),.int .i64 (n : Int)] w fun e w' => ∃ v,e = .returned v /\ Own w' w.heap.size v (xs.take n) /\ RPost w B q rb (xs.drop n,0) w':=by
 have hlt:=h.lt
 have hR:=h
 obtain ⟨h0,a,cap,h1,h2,h3,h4,h5⟩:=h
 obtain ⟨c0,c1,f0,f1⟩:=two_cells h1
 have hd : decide ((xs.length : Int) < (n : Int)) = false:=by simp; omega
 have hcap:=h2.2.1
 have hT:=h2.take hl
 have hD:=h2.drop hl
 by_cases hcn : cap = n
 ·rw [if_pos hcn] at hD
  subst hcn
  go_enter Tryz.func147,Tryz.ntmps147
  go_wp2_with fail
  refine (clone_any a cap cap _ _ hT (by omega)).mono ?_
  rintro e w1 ⟨v,rfl,ho,hbl⟩
  have c0':=(hbl.cell (p:=⟨q,0,none⟩) hlt).trans c0
  have f0':=(hbl.frozen (p:=⟨q,0,none⟩) hlt).trans f0
  have hP:=hR.advance hbl (hD.below hbl) h3
  have hO : Own (w1.setCell ⟨q,0,none⟩ (.slice a (xs.length - cap) (cap - cap))) w.heap.size v (xs.take cap):=by
   rcases ho.parts with ⟨rfl,hx⟩ | ⟨g,c',rfl,hg,hr⟩
   ·rw [hx]; exact Own.nil _ _
   ·exact Own.of_row (hr.setOther (a:=⟨q,0,none⟩) (by show g ≠ q; omega) _) hg
  have e1 : xs.length - cap = 0:=by omega
  have e2 : cap - cap = 0:=by omega
  rw [e1,e2] at hO hP
  clear hR h3 hD
  go_wp2_with fail
  go_ret
  exact ⟨_,rfl,hO,hP⟩
 ·rw [if_neg hcn] at hD
  go_enter Tryz.func147,Tryz.ntmps147
  go_wp2_with fail
  refine (clone_any a n cap _ _ hT (by omega)).mono ?_
  rintro e w1 ⟨v,rfl,ho,hbl⟩
  have c0':=(hbl.cell (p:=⟨q,0,none⟩) hlt).trans c0
  have f0':=(hbl.frozen (p:=⟨q,0,none⟩) hlt).trans f0
  have h3' : (a.map (·.add n)).map (·.block) = rb:=by
   rw [<- h3]; cases a with
   | none => rfl
   | some ad => simp only [Option.map_some,Option.some.injEq]; unfold Addr.add; split <;> rfl
  have hP:=hR.advance hbl (hD.below hbl) h3'
  have hO : Own (w1.setCell ⟨q,0,none⟩ (.slice (a.map (·.add n)) (xs.length - n) (cap - n))) w.heap.size v (xs.take n):=by
   rcases ho.parts with ⟨rfl,hx⟩ | ⟨g,c',rfl,hg,hr⟩
   ·rw [hx]; exact Own.nil _ _
   ·exact Own.of_row (hr.setOther (a:=⟨q,0,none⟩) (by show g ≠ q; omega) _) hg
  clear hR h3 h3' hD
  go_wp2_with fail
  go_ret
  exact ⟨_,rfl,hO,hP⟩
theorem rraw_any (B q : Nat) (rb : Option Nat) (xs : List UInt8) (why : Nat) (n : Int) (w : World) (h : Rd w B q rb xs why) (hb : xs.length <= big) :
  Calls Tryz.prog 147 #[.pointer (some ⟨q,0,none⟩),.int .i64 n] w fun e w' => ∃ v,e = .returned v /\ Own w' w.heap.size v (rdRaw (xs,why) n).1 /\ RPost w B q rb (rdRaw (xs,why) n).2 w':=by
 unfold rdRaw
 by_cases hw : why ≠ 0
 ·rw [if_pos hw]
  refine (rraw_err B q rb xs why n w h hw).mono ?_
  rintro e w' ⟨rfl,rfl⟩
  exact ⟨_,rfl,Own.nil _ _,h,Chg.refl _ _⟩
 ·obtain rfl : why = 0:=by omega
  rw [if_neg hw]
  by_cases hn : (xs.length : Int) < n
  ·rw [if_pos hn]
   refine (rraw_end B q rb xs n w h hn).mono ?_
   rintro e w' ⟨rfl,hP⟩
   exact ⟨_,rfl,Own.nil _ _,hP⟩
  ·rw [if_neg hn]
   by_cases h1 : n < 1
   ·rw [if_pos h1]
    refine (rraw_none B q rb xs n w h h1).mono ?_
    rintro e w' ⟨rfl,rfl⟩
    exact ⟨_,rfl,Own.nil _ _,h,Chg.refl _ _⟩
   ·rw [if_neg h1]
    obtain ⟨m,rfl⟩:=Int.eq_ofNat_of_zero_le (show 0 <= n by omega)
    exact rraw_some B q rb xs m w h (by omega) (by omega) hb
theorem Own.base {w : World} {B B' : Nat} {v : Value} {xs : List UInt8} (h : Own w B v xs) (hB : B' <= B) : Own w B' v xs:=by
 rcases h.parts with ⟨rfl,rfl⟩ | ⟨g,cap,rfl,h1,hr⟩
 ·exact Own.nil _ _
 ·exact Own.of_row hr (by omega)
def num (ys : List UInt8) : Nat:=ys.foldl (fun n c => n * 256 + c.toNat) 0
theorem num_snoc (ys : List UInt8) (y : UInt8) : num (ys ++ [y]) = num ys * 256 + y.toNat:=by simp [num]
theorem num_lt (ys : List UInt8) : num ys < 256 ^ ys.length:=by
 have : ∀ n,ys.foldl (fun n c => n * 256 + c.toNat) n < (n + 1) * 256 ^ ys.length:=by
  induction ys with
  | nil => intro n; simp
  | cons y ys ih =>
   intro n
   have h1:=ih (n * 256 + y.toNat)
   have h2:=y.toNat_lt
   simp only [List.foldl_cons,List.length_cons,Nat.pow_succ]
   refine Nat.lt_of_lt_of_le h1 ?_
   rw [Nat.mul_comm (256 ^ ys.length) 256,<- Nat.mul_assoc]
   exact Nat.mul_le_mul_right _ (by omega)
 simpa [num] using this 0
theorem or_byte (n c : Nat) (hn : n < 72057594037927936) (hc : c < 256) : bits .or .u64 (IntKind.u64.wrap ((n : Int) * 256)) (c : Int) = ((n * 256 + c : Nat) : Int):=by
 have e1 : IntKind.u64.wrap ((n : Int) * 256) = ((n * 256 : Nat) : Int):=by rw [IntKind.wrap_u64]; omega
 rw [e1,u64_or_nat _ _ (by omega) (by omega)]
 congr 1
 have:=Nat.two_pow_add_eq_or_of_lt (i:=8) (b:=c) (by omega) n
 rw [Nat.mul_comm] at this
 exact this.symm
theorem rget_any (B q : Nat) (rb : Option Nat) (xs : List UInt8) (why : Nat) (n : Nat) (w : World) (h : Rd w B q rb xs why) (hb : xs.length <= big) (hn : n <= 8) :
  Calls Tryz.prog 201 #[.pointer (some ⟨q,0,none⟩),.int .i64 (n : Int)] w fun e w' => e = .returned (.int .u64 (num (rdRaw (xs,why) n).1 : Nat)) /\ RPost w B q rb (rdRaw (xs,why) n).2 w':=by
 have hl : (rdRaw (xs,why) n).1.length <= 8:=by
  unfold rdRaw
  split
  ·simp
  ·split
   ·simp
   ·split
    ·simp
    ·simp; omega
 have hC:=rraw_any B q rb xs why n w h hb
 generalize (rdRaw (xs,why) n).1 = ys at *
 generalize (rdRaw (xs,why) n).2 = s at *
 go_enter Tryz.func201,Tryz.ntmps201
 go_wp2_with fail
 refine hC.mono ?_
 clear hC
 rintro e w1 ⟨v,rfl,ho,hP⟩
 obtain ⟨a,cap,rfl,hB⟩:=ho.bs
 go_wp2_with fail
 go_loop [5,12] (fun t i => ∃ k : Nat,k <= ys.length /\ i = .int .i64 k /\ t = .int .u64 (num (ys.take k) : Nat)) (fun _ i => ys.length - (intOf i).toNat)
 case atStart => exact ⟨0,by omega,rfl,rfl⟩
 case round =>
  obtain ⟨k,hk,rfl,rfl⟩:=hrel
  by_cases hlt : k < ys.length
  ·obtain ⟨b,off,ha,hb,hc⟩ : ∃ b off,a = some ⟨b,off,none⟩ /\ b < w1.heap.size /\ ∀ i (h : i < ys.length),w1.cell? ⟨b,off + i,none⟩ = some (.int .u8 (ys[i].toNat : Int)):=by
    rcases hB.2.2.2 with h | h
    ·omega
    ·exact h
   subst ha
   have hck:=hc k hlt
   have hor:=or_byte (num (ys.take k)) (ys[k]).toNat (by
    have h1:=num_lt (ys.take k)
    have h2 : (256 : Nat) ^ (ys.take k).length <= 256 ^ 7:=Nat.pow_le_pow_right (by omega) (by simp; omega)
    omega) (UInt8.toNat_lt _)
   rw [<- num_snoc,<- List.take_succ_eq_append_getElem hlt] at hor
   have HO:=qh hor
   clear hor
   have hyl:=(ys[k]).toNat_lt
   go_wp2_with fail
   rw [HO.out]
   go_round
   case rel => exact ⟨k + 1,by omega,by go_num,rfl⟩
   case measure => simp [intOf]; omega
  ·obtain rfl : k = ys.length:=by omega
   go_wp2_with fail
   go_ret
   exact ⟨rfl,hP⟩
theorem rdRaw_len (s : List UInt8 × Nat) (n : Nat) : (rdRaw s n).1.length <= n:=by
 unfold rdRaw
 split
 ·simp
 ·split
  ·simp
  ·split
   ·simp
   ·simp; omega
theorem rdRaw_left (s : List UInt8 × Nat) (n : Int) : (rdRaw s n).2.1.length <= s.1.length:=by
 unfold rdRaw
 split
 ·simp
 ·split
  ·simp
  ·split
   ·simp
   ·simp
def rdByte (s : List UInt8 × Nat) : Nat × (List UInt8 × Nat):=(num (rdRaw s 1).1,(rdRaw s 1).2)
def rdShort (s : List UInt8 × Nat) : Nat × (List UInt8 × Nat):=(num (rdRaw s 2).1,(rdRaw s 2).2)
def rdLong (s : List UInt8 × Nat) : Nat × (List UInt8 × Nat):=(num (rdRaw s 8).1,(rdRaw s 8).2)
def rdFlag (s : List UInt8 × Nat) : Bool × (List UInt8 × Nat):=if 1 < (rdByte s).1 then (false,((rdByte s).2.1,12)) else ((rdByte s).1 == 1,(rdByte s).2)
def rdBytes (s : List UInt8 × Nat) : List UInt8 × (List UInt8 × Nat):=rdRaw (rdShort s).2 (rdShort s).1
def rdLeft (s : List UInt8 × Nat) : Nat:=if s.2 ≠ 0 then 0 else s.1.length
def rdEnd (s : List UInt8 × Nat) : Nat:=if s.2 = 0 /\ 0 < s.1.length then 11 else s.2
theorem rdByte_lt (s : List UInt8 × Nat) : (rdByte s).1 < 256:=by
 have h1:=num_lt (rdRaw s 1).1
 have h2:=rdRaw_len s 1
 have : (256 : Nat) ^ (rdRaw s 1).1.length <= 256 ^ 1:=Nat.pow_le_pow_right (by omega) h2
 unfold rdByte; simp only; omega
theorem rdShort_lt (s : List UInt8 × Nat) : (rdShort s).1 < 65536:=by
 have h1:=num_lt (rdRaw s 2).1
 have h2:=rdRaw_len s 2
 have : (256 : Nat) ^ (rdRaw s 2).1.length <= 256 ^ 2:=Nat.pow_le_pow_right (by omega) h2
 unfold rdShort; simp only; omega
theorem rdLong_lt (s : List UInt8 × Nat) : (rdLong s).1 < 18446744073709551616:=by
 have h1:=num_lt (rdRaw s 8).1
 have h2:=rdRaw_len s 8
 have : (256 : Nat) ^ (rdRaw s 8).1.length <= 256 ^ 8:=Nat.pow_le_pow_right (by omega) h2
 unfold rdLong; simp only; omega
theorem rbyte_any (B q : Nat) (rb : Option Nat) (s : List UInt8 × Nat) (w : World) (h : Rd w B q rb s.1 s.2) (hb : s.1.length <= big) :
  Calls Tryz.prog 210 #[.pointer (some ⟨q,0,none⟩)] w fun e w' => e = .returned (.int .i64 ((rdByte s).1 : Nat)) /\ RPost w B q rb (rdByte s).2 w':=by
 have hC:=rget_any B q rb s.1 s.2 1 w h hb (by omega)
 have hl:=rdByte_lt s
 change Calls _ _ _ _ (fun e w' => e = .returned (.int .u64 ((rdByte s).1 : Nat)) /\ RPost w B q rb (rdByte s).2 w') at hC
 generalize (rdByte s).1 = n at *
 generalize (rdByte s).2 = t at *
 go_enter Tryz.func210,Tryz.ntmps210
 go_wp2_with fail
 refine hC.mono ?_
 clear hC
 rintro e w1 ⟨rfl,hP⟩
 go_wp2_with fail
 go_ret
 exact ⟨rfl,hP⟩
theorem rshort_any (B q : Nat) (rb : Option Nat) (s : List UInt8 × Nat) (w : World) (h : Rd w B q rb s.1 s.2) (hb : s.1.length <= big) :
  Calls Tryz.prog 145 #[.pointer (some ⟨q,0,none⟩)] w fun e w' => e = .returned (.int .i64 ((rdShort s).1 : Nat)) /\ RPost w B q rb (rdShort s).2 w':=by
 have hC:=rget_any B q rb s.1 s.2 2 w h hb (by omega)
 have hl:=rdShort_lt s
 change Calls _ _ _ _ (fun e w' => e = .returned (.int .u64 ((rdShort s).1 : Nat)) /\ RPost w B q rb (rdShort s).2 w') at hC
 generalize (rdShort s).1 = n at *
 generalize (rdShort s).2 = t at *
 go_enter Tryz.func145,Tryz.ntmps145
 go_wp2_with fail
 refine hC.mono ?_
 clear hC
 rintro e w1 ⟨rfl,hP⟩
 go_wp2_with fail
 go_ret
 exact ⟨rfl,hP⟩
theorem rlong_any (B q : Nat) (rb : Option Nat) (s : List UInt8 × Nat) (w : World) (h : Rd w B q rb s.1 s.2) (hb : s.1.length <= big) :
  Calls Tryz.prog 146 #[.pointer (some ⟨q,0,none⟩)] w fun e w' => e = .returned (.int .u64 ((rdLong s).1 : Nat)) /\ RPost w B q rb (rdLong s).2 w':=by
 have hC:=rget_any B q rb s.1 s.2 8 w h hb (by omega)
 change Calls _ _ _ _ (fun e w' => e = .returned (.int .u64 ((rdLong s).1 : Nat)) /\ RPost w B q rb (rdLong s).2 w') at hC
 generalize (rdLong s).1 = n at *
 generalize (rdLong s).2 = t at *
 go_enter Tryz.func146,Tryz.ntmps146
 go_wp2_with fail
 refine hC.mono ?_
 clear hC
 rintro e w1 ⟨rfl,hP⟩
 go_wp2_with fail
 go_ret
 exact ⟨rfl,hP⟩
theorem rflag_any (B q : Nat) (rb : Option Nat) (s : List UInt8 × Nat) (w : World) (h : Rd w B q rb s.1 s.2) (hb : s.1.length <= big) :
  Calls Tryz.prog 303 #[.pointer (some ⟨q,0,none⟩)] w fun e w' => e = .returned (.bool (rdFlag s).1) /\ RPost w B q rb (rdFlag s).2 w':=by
 have hC:=rbyte_any B q rb s w h hb
 unfold rdFlag
 generalize (rdByte s).1 = n at *
 generalize (rdByte s).2 = t at *
 by_cases hn : 1 < n
 ·rw [if_pos hn]
  have hn1 : ((n : Int) == 1) = false:=by rw [beq_eq_false_iff_ne]; omega
  go_enter Tryz.func303,Tryz.ntmps303
  go_wp2_with fail
  refine hC.mono ?_
  clear hC
  rintro e w1 ⟨rfl,hP⟩
  have hS:=RPost.trans hP.2 (hP.1.set_why 12)
  obtain ⟨_,a,cap,h1,_⟩:=hP.1
  obtain ⟨c0,c1,f0,f1⟩:=two_cells h1
  clear h1 hP
  go_wp2_with fail
  go_ret
  exact ⟨rfl,hS⟩
 ·rw [if_neg hn]
  have HB:=qh (show ((n : Int) == 1) = (n == 1) by rw [Bool.eq_iff_iff]; simp; omega)
  go_enter Tryz.func303,Tryz.ntmps303
  go_wp2_with fail
  refine hC.mono ?_
  clear hC
  rintro e w1 ⟨rfl,hP⟩
  go_wp2_with fail
  go_ret
  exact ⟨by rw [<- HB.out]; rfl,hP⟩
theorem rbytes_any (B q : Nat) (rb : Option Nat) (s : List UInt8 × Nat) (w : World) (h : Rd w B q rb s.1 s.2) (hb : s.1.length <= big) :
  Calls Tryz.prog 211 #[.pointer (some ⟨q,0,none⟩)] w fun e w' => ∃ v,e = .returned v /\ Own w' w.heap.size v (rdBytes s).1 /\ RPost w B q rb (rdBytes s).2 w':=by
 have hC:=rshort_any B q rb s w h hb
 have hl : (rdShort s).2.1.length <= s.1.length:=rdRaw_left s 2
 unfold rdBytes
 generalize (rdShort s).1 = n at *
 generalize (rdShort s).2 = t at *
 go_enter Tryz.func211,Tryz.ntmps211
 go_wp2_with fail
 refine hC.mono ?_
 clear hC
 rintro e w1 ⟨rfl,hP⟩
 have hC2:=rraw_any B q rb t.1 t.2 n w1 hP.1 (by omega)
 go_wp2_with fail
 refine hC2.mono ?_
 clear hC2
 rintro e w2 ⟨v,rfl,ho,hP2⟩
 go_wp2_with fail
 go_ret
 exact ⟨_,rfl,Own.base ho hP.2.size,RPost.trans hP.2 hP2⟩
theorem rleft_any (B q : Nat) (rb : Option Nat) (s : List UInt8 × Nat) (w : World) (h : Rd w B q rb s.1 s.2) :
  Calls Tryz.prog 238 #[.pointer (some ⟨q,0,none⟩)] w fun e w' => e = .returned (.int .i64 (rdLeft s : Nat)) /\ w = w':=by
 obtain ⟨h0,a,cap,h1,h2,h3,h4,h5⟩:=h
 obtain ⟨c0,c1,f0,f1⟩:=two_cells h1
 clear h1 h3 h4 h5
 unfold rdLeft
 by_cases hw : s.2 ≠ 0
 ·rw [if_pos hw]
  have e2 : ((s.2 : Int) != 0) = true:=by rw [bne_iff_ne]; omega
  go_enter Tryz.func238,Tryz.ntmps238
  go_wp2_with fail
  go_ret
  exact ⟨rfl,rfl⟩
 ·rw [if_neg hw]
  have e2 : ((s.2 : Int) != 0) = false:=by rw [bne_eq_false_iff_eq]; omega
  go_enter Tryz.func238,Tryz.ntmps238
  go_wp2_with fail
  go_ret
  exact ⟨rfl,rfl⟩
theorem rend_any (B q : Nat) (rb : Option Nat) (s : List UInt8 × Nat) (w : World) (h : Rd w B q rb s.1 s.2) :
  Calls Tryz.prog 212 #[.pointer (some ⟨q,0,none⟩)] w fun e w' => e = .returned (.int .i64 (rdEnd s : Nat)) /\ w = w':=by
 obtain ⟨xs,why⟩:=s
 obtain ⟨h0,a,cap,h1,h2,h3,h4,h5⟩:=h
 obtain ⟨c0,c1,f0,f1⟩:=two_cells h1
 clear h1 h3 h4 h5
 unfold rdEnd
 simp only at *
 by_cases hw : why = 0
 ·subst hw
  by_cases hl : 0 < xs.length
  ·rw [if_pos ⟨rfl,hl⟩]
   go_enter Tryz.func212,Tryz.ntmps212
   go_wp2_with fail
   go_ret
   exact ⟨rfl,rfl⟩
  ·rw [if_neg (fun h => hl h.2)]
   have hd : decide ((0 : Int) < (xs.length : Int)) = false:=decide_eq_false (by omega)
   have hl0 : xs.length = 0:=by omega
   clear hl
   go_enter Tryz.func212,Tryz.ntmps212
   go_wp2_with fail
   go_ret
   exact ⟨rfl,rfl⟩
 ·rw [if_neg (fun h => hw h.1)]
  have e2 : ((why : Int) == 0) = false:=by rw [beq_eq_false_iff_ne]; omega
  clear hw
  go_enter Tryz.func212,Tryz.ntmps212
  go_wp2_with fail
  go_ret
  exact ⟨rfl,rfl⟩
theorem rnew_any (a : Option Addr) (len cap : Nat) (xs : List UInt8) (w : World) (h : Bs w a len cap xs) (hl : len <= big) :
  Calls Tryz.prog 144 #[.slice a len cap] w fun e w' => ∃ q rb,e = .returned (.pointer (some ⟨q,0,none⟩)) /\ Rd w' w.heap.size q rb xs 0 /\ Below w.heap.size w w':=by
 go_enter Tryz.func144,Tryz.ntmps144
 go_wp2_with fail
 refine (clone_any a len cap xs _ h hl).mono ?_
 rintro e w1 ⟨v,rfl,ho,hbl⟩
 have hs:=hbl.size
 rcases ho.parts with ⟨rfl,rfl⟩ | ⟨g,c',rfl,hg,hr⟩
 ·go_wp2_with fail
  go_ret
  exact ⟨_,none,rfl,⟨hs,none,0,heap_alloc_new w1 _,Bs.nil _,rfl,by simp,by simp⟩,((Ext.refl w).step hbl |>.alloc _).1⟩
 ·have hrl:=hr.lt
  go_wp2_with fail
  go_ret
  exact ⟨_,some g,rfl,⟨hs,_,c',heap_alloc_new w1 _,(hr.alloc _).bs,rfl,by simp; omega,by simp; omega⟩,((Ext.refl w).step hbl |>.alloc _).1⟩
end
end Go.Proofs.YtabdcphioccgnaaGreatDoor
