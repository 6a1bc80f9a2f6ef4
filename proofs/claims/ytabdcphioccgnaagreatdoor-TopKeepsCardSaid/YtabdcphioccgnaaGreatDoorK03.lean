/- Own; Mem; Str; Tools2; Equal; Trim. -/
import Derived.Deep.DeepCutAuto
import Derived.Deep.RegionLaw
import Derived.Laws.AppendOwnNone
import Derived.Maps.AppendAt
import Derived.Test.YtabdcphioccgnaaGreatDoorK01
set_option maxRecDepth 100000
set_option maxHeartbeats 8000000
namespace Go.Proofs.YtabdcphioccgnaaGreatDoor
section
open Go.RowKit
abbrev TB : TypeId:=5
def Row (w : World) (g cap : Nat) (xs : List UInt8) : Prop :=
 ∃ cur,w.heap[g]? = some (.cells cur TB (0,0)) /\ cur.size = cap /\ xs.length <= cap /\ cap <= maxLen /\ cur.toList.take xs.length = xs.map bv
theorem Row.lt {w : World} {g cap : Nat} {xs : List UInt8} (h : Row w g cap xs) : g < w.heap.size:=by
 obtain ⟨cur,h1,_⟩:=h
 exact (Array.getElem?_eq_some_iff.1 h1).1
theorem Row.len {w : World} {g cap : Nat} {xs : List UInt8} (h : Row w g cap xs) : xs.length <= cap:=by obtain ⟨cur,_,_,h3,_⟩:=h; exact h3
theorem Row.cap_le {w : World} {g cap : Nat} {xs : List UInt8} (h : Row w g cap xs) : cap <= maxLen:=by obtain ⟨cur,_,_,_,h4,_⟩:=h; exact h4
theorem Row.cell {w : World} {g cap : Nat} {xs : List UInt8} (h : Row w g cap xs) (i : Nat) (hi : i < xs.length) : w.cell? ⟨g,i,none⟩ = some (.int .u8 (xs[i].toNat : Int)):=by
 obtain ⟨cur,h1,h2,h3,h4,h5⟩:=h
 have h6:=congrArg (·[i]?) h5
 simp only [List.getElem?_take,List.getElem?_map] at h6
 rw [if_pos hi] at h6
 simp only [World.cell?,h1]
 rw [<- Array.getElem?_toList]
 simp [h6,bv,hi]
theorem Row.of_heap {w w' : World} {g cap : Nat} {xs : List UInt8} (h : Row w g cap xs) (he : w'.heap[g]? = w.heap[g]?) : Row w' g cap xs:=by
 obtain ⟨cur,h1,h2⟩:=h
 exact ⟨cur,he.trans h1,h2⟩
theorem Row.below {w w' : World} {g cap : Nat} {xs : List UInt8} (h : Row w g cap xs) (hb : Below w.heap.size w w') : Row w' g cap xs:=h.of_heap (hb.block g h.lt)
theorem Row.alloc {w : World} {g cap : Nat} {xs : List UInt8} (h : Row w g cap xs) (o : Obj) : Row (w.alloc o) g cap xs:=h.of_heap (Below.heap_alloc _ _ _ h.lt)
theorem Row.setOther {w : World} {g cap : Nat} {xs : List UInt8} (h : Row w g cap xs) {a : Addr} (ha : g ≠ a.block) (u : Value) : Row (w.setCell a u) g cap xs:=h.of_heap (Below.heap_setCell _ _ _ _ ha)
theorem Row.grown {w w' : World} {g cap : Nat} {xs : List UInt8} {row : Option Nat} (h : Row w g cap xs) (hg : w.grownBy w' row) (hne : some g ≠ row) : Row w' g cap xs:=h.of_heap (hg.block g h.lt hne)
theorem Row.bs {w : World} {g cap : Nat} {xs : List UInt8} (h : Row w g cap xs) : Bs w (some ⟨g,0,none⟩) xs.length cap xs :=
 ⟨rfl,h.len,h.cap_le,.inr ⟨g,0,rfl,h.lt,fun i hi => by rw [Nat.zero_add]; exact h.cell i hi⟩⟩
theorem Row.made (w : World) (C : Array Value) (n cap : Nat) (xs : List UInt8) (hc : C.size = cap) (hn : xs.length = n) (h : n <= cap) (hcap : cap <= maxLen) (hC : C.toList.take n = xs.map bv) : Row (w.alloc (.cells C TB)) w.heap.size cap xs :=
 ⟨C,heap_alloc_new w _,hc,by omega,hcap,by rw [hn]; exact hC⟩
def Own (w : World) (B : Nat) (v : Value) (xs : List UInt8) : Prop:=w.ownsRow B TB 1 v xs.length (xs.map bv)
theorem Own.nil (w : World) (B : Nat) : Own w B (.slice none 0 0) []:=World.ownsRow_nil w B TB 1
theorem Own.parts {w : World} {B : Nat} {v : Value} {xs : List UInt8} (h : Own w B v xs) :
  (v = .slice none 0 0 /\ xs = []) ∨ ∃ g cap,v = .slice (some ⟨g,0,none⟩) xs.length cap /\ B <= g /\ Row w g cap xs:=by
 obtain ⟨_,h2⟩:=h
 rcases h2 with ⟨h2,h3⟩ | ⟨g,cap,cur,h2,h3,h4,h5,h6,h7,h8⟩
 ·exact .inl ⟨h2,List.length_eq_zero_iff.1 h3⟩
 ·exact .inr ⟨g,cap,h2,h3,cur,h4,by omega,h5,h6,by simpa using h8⟩
theorem Own.of_row {w : World} {B g cap : Nat} {xs : List UInt8} (h : Row w g cap xs) (hB : B <= g) : Own w B (.slice (some ⟨g,0,none⟩) xs.length cap) xs:=by
 obtain ⟨cur,h1,h2,h3,h4,h5⟩:=h
 exact ⟨by simp,.inr ⟨g,cap,cur,rfl,hB,h1,h3,h4,by omega,by simpa using h5⟩⟩
theorem Own.bs {w : World} {B : Nat} {v : Value} {xs : List UInt8} (h : Own w B v xs) : ∃ a cap,v = .slice a xs.length cap /\ Bs w a xs.length cap xs:=by
 rcases h.parts with ⟨rfl,rfl⟩ | ⟨g,cap,rfl,_,hr⟩
 ·exact ⟨none,0,rfl,Bs.nil w⟩
 ·exact ⟨_,cap,rfl,hr.bs⟩
theorem Own.below {w w' : World} {B : Nat} {v : Value} {xs : List UInt8} (h : Own w B v xs) (hb : Below w.heap.size w w') : Own w' B v xs:=by
 rcases h.parts with ⟨rfl,rfl⟩ | ⟨g,cap,rfl,hB,hr⟩
 ·exact Own.nil _ _
 ·exact Own.of_row (hr.below hb) hB
theorem Own.alloc {w : World} {B : Nat} {v : Value} {xs : List UInt8} (h : Own w B v xs) (o : Obj) : Own (w.alloc o) B v xs:=h.below ((Below.refl _ _).alloc (Nat.le_refl _) o)
theorem Ext.grown {B : Nat} {a w w' : World} {row : Option Nat} (h : Ext B a w) (hg : w.grownBy w' row) (hr : ∀ k,row = some k -> B <= k) : Ext B a w':=⟨h.1.grown hg h.2 hr,Nat.le_trans h.2 hg.size⟩
theorem Bs.news {w : World} {a : Option Addr} {len cap : Nat} {ys : List UInt8} (h : Bs w a len cap ys) :
  (a = none /\ len = 0 /\ ys = []) ∨ ∃ ad,a = some ad /\ ∀ j u,(ys.map bv)[j]? = some u -> w.cell? (ad.add j) = some u:=by
 obtain ⟨h1,h2,h3,h4⟩:=h
 rcases h4 with rfl | ⟨b,off,rfl,h5,h6⟩
 ·obtain rfl:=List.length_eq_zero_iff.1 h1
  cases a with
  | none => exact .inl ⟨rfl,rfl,rfl⟩
  | some ad => exact .inr ⟨ad,rfl,fun j u hu => by simp at hu⟩
 ·refine .inr ⟨_,rfl,fun j u hu => ?_⟩
  have hj : j < ys.length:=by
   rcases Nat.lt_or_ge j ys.length with h | h
   ·exact h
   ·rw [List.getElem?_eq_none (by simpa using h)] at hu; cases hu
  have he : (⟨b,off,none⟩ : Addr).add j = ⟨b,off + j,none⟩:=by by_cases hi0 : j = 0 <;> simp [Addr.add,hi0]
  rw [he,h6 j hj,<- hu]
  simp [bv,hj]
theorem infoTB : (Tryz.prog.info? TB).map (fun i => (i.zero,i.size,i.bytes)) = some (some (.int .u8 0),1,1):=by kernel_rfl
theorem run_make_bytes (n : Nat) (hn : n <= 281474976710656) (W : World) : (Instr.makeSlice 30 (.int .i64 (n : Int)) (.int .i64 (n : Int))).run Tryz.prog W = .ok (.slice (some ⟨W.heap.size,0,none⟩) n n) (W.alloc (.cells (madeCells #[.int .u8 0] n) TB)):=by
 obtain ⟨i,hi,hz0,hz1,hz2⟩:=info_parts infoTB
 have:=run_make (P:=Tryz.prog) W 30 TB i (.int .u8 0) Tryz.underlying30 hi hz0 .i64 .i64 n n (by omega) (by omega) (by rw [hz2]; omega) (by omega)
 simpa [hz1,Value.cells] using this
theorem Row.zero (w : World) (n : Nat) (hn : n <= maxLen) : Row (w.alloc (.cells (madeCells #[.int .u8 0] n) TB)) w.heap.size n (List.replicate n 0):=by
 refine Row.made w _ n n _ (by simp [madeCells]) (by simp) (Nat.le_refl _) hn ?_
 rw [toList_madeCells_one,List.take_of_length_le (by simp)]
 simp [bv]
def part (L : List UInt8) (k : Nat) : List UInt8:=L.take k ++ List.replicate (L.length - k) 0
theorem run_append_none0 {P : Program} {w : World} (base : Nat) (t ty e : TypeId) (i : TypeInfo) (size : Nat) (ht : P.underlying t = some (.slice e)) (hi : P.info? e = some i)
  (v : Value) (n cap : Nat) (xs : List Value) (hown : w.ownsRow base e size v n xs) : (Builtin.append_ #[t,t] ty #[v,.slice none 0 cap]).run P w = .ok v w:=by
 rcases hown.2 with ⟨rfl,rfl⟩ | ⟨g,c,cur,rfl,_,_,hnc,_⟩
 ·simp [Builtin.append_,run_underlying ht,sizeOf,typeInfo,hi,Builtin.lenOf,Builtin.firstCells]
 ·simp [Builtin.append_,run_underlying ht,sizeOf,typeInfo,hi,Builtin.lenOf,Builtin.firstCells,hnc,storeCells]
theorem wpList_append_bytes {w : World} {ops : Array Oper} {rest : List Oper} {o : Oper} {a : Act} {Q : Exit -> Act -> World -> Prop} (hgd : o.guard = none) (s x : Operand)
  (ho : o.op = .call { callee:=.builtin .append,args:=#[s,x],argTypes:=#[30,30] })
  (B : Nat) (v : Value) (xs : List UInt8) (hs : a.eval s = v) (hown : Own w B v xs)
  (ad : Option Addr) (m c : Nat) (ys : List UInt8) (hx : a.eval x = .slice ad m c) (hB : Bs w ad m c ys)
  (hlen : xs.length + m <= 140737488355328) (hbase : B <= w.heap.size)
  (h : ∀ v' w',Own w' B v' (xs ++ ys) -> w.grownBy w' v.ownBlock -> (v' = .slice none 0 0 ↔ v = .slice none 0 0 /\ m = 0) -> wpList Tryz.prog ops Q rest (a.put o.dst v') w') : wpList Tryz.prog ops Q (o :: rest) a w:=by
 obtain ⟨i,hi,hz0,hz1,hz2⟩:=info_parts infoTB
 have hm:=hB.1
 rcases hB.news with ⟨rfl,rfl,rfl⟩ | ⟨ad,rfl,hnews⟩
 ·refine wpList_plain hgd fun K hK => ?_
  have hrun:=run_append_none0 (P:=Tryz.prog) (w:=w) B 30 o.type TB i 1 Tryz.underlying30 hi v _ c _ hown
  unfold Oper.wp
  simp [execOp,ho,resolve,invoke,builtin,hs,hx,hrun,Result.andThen]
  exact hK _ _ (h v w (by simpa using hown) ⟨rfl,rfl,rfl,Nat.le_refl _,fun _ _ _ => rfl⟩ (by simp))
 ·refine wpList_append_own w hgd s x 30 ho B TB i (.int .u8 0) 1 1 Tryz.underlying30 hi hz0 hz1 hz2 rfl (by decide) v xs.length (xs.map bv) hs hown ad m c (ys.map bv) hx (by simp; omega) hnews ?_ (by unfold maxLen; omega) (by omega) hbase fun v' w' h1 h2 h3 => h v' w' ?_ h2 h3
  ·intro u hu
   obtain ⟨y,_,rfl⟩:=List.mem_map.1 hu
   rfl
  ·subst hm
   unfold Own
   simpa using h1
structure Chg (S : Nat -> Prop) (w w' : World) : Prop where
 os : w'.os = w.os
 tape : w'.tape = w.tape
 output : w'.output = w.output
 size : w.heap.size <= w'.heap.size
 block : ∀ k,k < w.heap.size -> ¬ S k -> w'.heap[k]? = w.heap[k]?
theorem Chg.refl (S : Nat -> Prop) (w : World) : Chg S w w:=⟨rfl,rfl,rfl,Nat.le_refl _,fun _ _ _ => rfl⟩
theorem Chg.trans {S S' : Nat -> Prop} {a b c : World} (h : Chg S a b) (k : Chg S' b c) (hs : ∀ i,i < a.heap.size -> S' i -> S i) : Chg S a c :=
 ⟨k.os.trans h.os,k.tape.trans h.tape,k.output.trans h.output,Nat.le_trans h.size k.size,fun i hi hn =>
  (k.block i (Nat.lt_of_lt_of_le hi h.size) (fun h' => hn (hs i hi h'))).trans (h.block i hi hn)⟩
theorem Chg.mono {S S' : Nat -> Prop} {a b : World} (h : Chg S a b) (hs : ∀ i,i < a.heap.size -> S i -> S' i) : Chg S' a b:=(Chg.refl S' a).trans h hs
theorem Chg.of_below {w w' : World} (h : Below w.heap.size w w') (S : Nat -> Prop) : Chg S w w':=⟨h.os,h.tape,h.output,h.size,fun k hk _ => h.block k hk⟩
theorem Chg.below {S : Nat -> Prop} {w w' : World} {B : Nat} (h : Chg S w w') (hB : B <= w.heap.size) (hs : ∀ k,k < w.heap.size -> S k -> B <= k) : Below B w w' :=
 ⟨h.os,h.tape,h.output,h.size,fun k hk => h.block k (by omega) (fun h' => by have:=hs k (by omega) h'; omega)⟩
theorem Chg.alloc {S : Nat -> Prop} {a w : World} (h : Chg S a w) (o : Obj) : Chg S a (w.alloc o):=h.trans (Chg.of_below ((Below.refl _ _).alloc (Nat.le_refl _) o) (fun _ => False)) (fun _ _ h => h.elim)
theorem Chg.drew {S : Nat -> Prop} {a w : World} (h : Chg S a w) : Chg S a w.drew:=⟨h.os,h.tape,h.output,h.size,h.block⟩
theorem Chg.step {S : Nat -> Prop} {a w w' : World} (h : Chg S a w) (hb : Below w.heap.size w w') : Chg S a w':=h.trans (Chg.of_below hb (fun _ => False)) (fun _ _ h => h.elim)
theorem Chg.setCell {S : Nat -> Prop} {a w : World} (h : Chg S a w) {p : Addr} (hp : p.block < a.heap.size -> S p.block) (u : Value) : Chg S a (w.setCell p u) :=
 h.trans (S':=fun k => k = p.block) ⟨rfl,rfl,rfl,by simp [World.setCell],fun k _ hk => Below.heap_setCell _ _ _ _ hk⟩ (fun i hi e => by subst e; exact hp hi)
theorem Chg.grown {S : Nat -> Prop} {a w w' : World} {row : Option Nat} (h : Chg S a w) (hg : w.grownBy w' row) (hr : ∀ k,k < a.heap.size -> row = some k -> S k) : Chg S a w' :=
 h.trans (S':=fun k => row = some k) ⟨hg.os,hg.tape,hg.output,hg.size,fun k hk hn => hg.block k hk (fun e => hn e.symm)⟩ hr
theorem Chg.cell {S : Nat -> Prop} {w w' : World} (h : Chg S w w') {b o : Nat} (hb : b < w.heap.size) (hs : ¬ S b) : w'.cell? ⟨b,o,none⟩ = w.cell? ⟨b,o,none⟩:=World.cell?_of_block (a:=⟨b,o,none⟩) (h.block b hb hs)
theorem Chg.row {S : Nat -> Prop} {w w' : World} (h : Chg S w w') {g cap : Nat} {xs : List UInt8} (hr : Row w g cap xs) (hs : ¬ S g) : Row w' g cap xs:=hr.of_heap (h.block g hr.lt hs)
theorem Chg.bs {S : Nat -> Prop} {w w' : World} (h : Chg S w w') {a : Option Addr} {len cap : Nat} {xs : List UInt8} (hb : Bs w a len cap xs) (hs : ∀ ad,a = some ad -> ¬ S ad.block) : Bs w' a len cap xs:=by
 obtain ⟨h1,h2,h3,h4⟩:=hb
 refine ⟨h1,h2,h3,?_⟩
 rcases h4 with h4 | ⟨b,off,rfl,h5,h6⟩
 ·exact .inl h4
 ·exact .inr ⟨b,off,rfl,Nat.lt_of_lt_of_le h5 h.size,fun i hi => by rw [h.cell h5 (hs _ rfl)]; exact h6 i hi⟩
theorem Chg.own {S : Nat -> Prop} {w w' : World} (h : Chg S w w') {B : Nat} {v : Value} {xs : List UInt8} (ho : Own w B v xs) (hs : ∀ k,v.ownBlock = some k -> ¬ S k) : Own w' B v xs:=by
 rcases ho.parts with ⟨rfl,rfl⟩ | ⟨g,cap,rfl,hB,hr⟩
 ·exact Own.nil _ _
 ·exact Own.of_row (h.row hr (hs g rfl)) hB
theorem run_append_bytes {w : World} (B : Nat) (v : Value) (xs : List UInt8) (hown : Own w B v xs) (ad : Option Addr) (m c : Nat) (ys : List UInt8) (hB : Bs w ad m c ys) (ty : TypeId)
  (hlen : xs.length + m <= 140737488355328) (hbase : B <= w.heap.size) :
  ∃ v' w',(Builtin.append_ #[30,30] ty #[v,.slice ad m c]).run Tryz.prog w = .ok v' w' /\ Own w' B v' (xs ++ ys) /\ w.grownBy w' v.ownBlock /\
   (v' = .slice none 0 0 ↔ v = .slice none 0 0 /\ m = 0) /\ (v'.ownBlock = v.ownBlock ∨ v'.ownBlock = some w.heap.size):=by
 obtain ⟨i,hi,hz0,hz1,hz2⟩:=info_parts infoTB
 have hm:=hB.1
 rcases hB.news with ⟨rfl,rfl,rfl⟩ | ⟨ad,rfl,hnews⟩
 ·have hrun:=run_append_none0 (P:=Tryz.prog) (w:=w) B 30 ty TB i 1 Tryz.underlying30 hi v _ c _ hown
  exact ⟨v,w,hrun,by simpa using hown,⟨rfl,rfl,rfl,Nat.le_refl _,fun _ _ _ => rfl⟩,by simp,.inl rfl⟩
 ·obtain ⟨v',w',h1,h2,h3,h4,h5⟩:=run_append_own_at (P:=Tryz.prog) w B 30 ty TB i (.int .u8 0) 1 1 Tryz.underlying30 hi hz0 hz1 hz2 rfl (by decide) v xs.length (xs.map bv) hown ad m c (ys.map bv) (by simp; omega) hnews (by
   intro u hu
   obtain ⟨y,_,rfl⟩:=List.mem_map.1 hu
   rfl) (by unfold maxLen; omega) (by omega) hbase
  exact ⟨v',w',h1,by subst hm; unfold Own; simpa using h2,h3,h4,h5⟩
theorem wp_append_at {w : World} {o : Oper} {a : Act} {K : Act -> World -> Prop} {Q : Exit -> Act -> World -> Prop} (s x : Operand)
  (ho : o.op = .call { callee:=.builtin .append,args:=#[s,x],argTypes:=#[30,30] })
  (B : Nat) (v : Value) (xs : List UInt8) (hs : a.eval s = v) (hown : Own w B v xs)
  (ad : Option Addr) (m c : Nat) (ys : List UInt8) (hx : a.eval x = .slice ad m c) (hB : Bs w ad m c ys)
  (hlen : xs.length + m <= 140737488355328) (hbase : B <= w.heap.size)
  (h : ∀ v' w',Own w' B v' (xs ++ ys) -> w.grownBy w' v.ownBlock -> (v'.ownBlock = v.ownBlock ∨ v'.ownBlock = some w.heap.size) -> K (a.put o.dst v') w') : o.wp Tryz.prog a w K Q:=by
 obtain ⟨v',w',hr,h2,h3,_,h5⟩:=run_append_bytes B v xs hown ad m c ys hB o.type hlen hbase
 unfold Oper.wp execOp
 simp only [ho,resolve,invoke,builtin,Sem.run_bind,Sem.run_pure,Result.andThen_ok,List.map_toArray,List.map_cons,List.map_nil,hs,hx,hr]
 exact h v' w' h2 h3 h5
theorem wpList_append_at {w : World} {ops : Array Oper} {rest : List Oper} {o : Oper} {a : Act} {Q : Exit -> Act -> World -> Prop} (hgd : o.guard = none) (s x : Operand)
  (ho : o.op = .call { callee:=.builtin .append,args:=#[s,x],argTypes:=#[30,30] })
  (B : Nat) (v : Value) (xs : List UInt8) (hs : a.eval s = v) (hown : Own w B v xs)
  (ad : Option Addr) (m c : Nat) (ys : List UInt8) (hx : a.eval x = .slice ad m c) (hB : Bs w ad m c ys)
  (hlen : xs.length + m <= 140737488355328) (hbase : B <= w.heap.size)
  (h : ∀ v' w',Own w' B v' (xs ++ ys) -> w.grownBy w' v.ownBlock -> (v'.ownBlock = v.ownBlock ∨ v'.ownBlock = some w.heap.size) -> wpList Tryz.prog ops Q rest (a.put o.dst v') w') : wpList Tryz.prog ops Q (o :: rest) a w :=
 wpList_plain hgd fun _ hK => wp_append_at s x ho B v xs hs hown ad m c ys hx hB hlen hbase fun v' w' h1 h2 h3 => hK _ _ (h v' w' h1 h2 h3)
theorem step_append_at {w : World} {ops : Array Oper} {o : Oper} {a : Act} {K : Act -> World -> Prop} {Q : Exit -> Act -> World -> Prop} {E : Prop} (hgd : o.guard = none) (s x : Operand)
  (ho : o.op = .call { callee:=.builtin .append,args:=#[s,x],argTypes:=#[30,30] })
  (B : Nat) (v : Value) (xs : List UInt8) (hs : a.eval s = v) (hown : Own w B v xs)
  (ad : Option Addr) (m c : Nat) (ys : List UInt8) (hx : a.eval x = .slice ad m c) (hB : Bs w ad m c ys)
  (hlen : xs.length + m <= 140737488355328) (hbase : B <= w.heap.size)
  (h : ∀ v' w',Own w' B v' (xs ++ ys) -> w.grownBy w' v.ownBlock -> (v'.ownBlock = v.ownBlock ∨ v'.ownBlock = some w.heap.size) -> K (a.put o.dst v') w') :
  if Region.wanted o (yielded ops a.tmps) = true then Oper.wp Tryz.prog o a w K Q else E:=by
 rw [if_pos (by simp [Region.wanted,hgd])]
 exact wp_append_at s x ho B v xs hs hown ad m c ys hx hB hlen hbase h
def strOf (xs : List UInt8) : ByteArray:=⟨xs.toArray⟩
theorem strOf_toList (xs : List UInt8) : (strOf xs).toList = xs:=by rw [ByteArray.toList_eq]; rfl
theorem run_string {w : World} {a : Option Addr} {len cap : Nat} {xs : List UInt8} (h : Bs w a len cap xs) : (convert 30 9 (.slice a len cap)).run Tryz.prog w = .ok (.string (strOf xs)) w:=by
 rcases h.news with ⟨rfl,rfl,rfl⟩ | ⟨ad,rfl,h2⟩
 ·exact run_convert_bytes_nil w 30 5 Tryz.underlying30 Tryz.underlying5 _ _ 9 Tryz.underlying9
 ·obtain rfl:=h.1
  refine run_convert_bytes_back w 30 9 5 ad cap xs Tryz.underlying30 Tryz.underlying5 Tryz.underlying9 fun j hj => h2 j _ ?_
  simp [hj,bv]
theorem Own.bsn {w : World} {B n : Nat} {v : Value} {xs : List UInt8} (h : Own w B v xs) (hn : xs.length = n) : ∃ a cap,v = .slice a n cap /\ Bs w a n cap xs:=by
 subst hn; exact h.bs
theorem cells_at {w : World} {b : Nat} {cs : Array Value} {t : TypeId} {fr : Nat × Nat} (h : w.heap[b]? = some (.cells cs t fr)) (i : Nat) : w.cell? ⟨b,i,none⟩ = cs[i]?:=by
 simp only [World.cell?,h]; rfl
theorem cells_set {w : World} {b k : Nat} {y : Value} {cs : Array Value} {t : TypeId} (h : w.heap[b]? = some (.cells cs t (0,0))) : (w.setCell ⟨b,k,none⟩ y).heap[b]? = some (.cells (cs.setIfInBounds k y) t (0,0)):=by
 simp [World.setCell,Array.getElem?_modify,h]
theorem cells_far {w : World} {b Z k : Nat} {y : Value} {o : Option Obj} (h : w.heap[b]? = o) (hb : b ≠ Z) : (w.setCell ⟨Z,k,none⟩ y).heap[b]? = o :=
 (Below.heap_setCell _ _ _ _ (show b ≠ (⟨Z,k,none⟩ : Addr).block from hb)).trans h
theorem wrap_succ {j l : Nat} (h : j < l) (hl : l <= maxLen) : wrap64 ((j : Int) + 1) = (j : Int) + 1:=by
 have h2 : (l : Int) <= 9223372036854775807:=by
  have : ((maxLen : Nat) : Int) = 9223372036854775807:=by decide +kernel
  omega
 apply IntWalk.wrap64_in
 constructor <;> omega
theorem meas_succ {l j : Nat} (h : j < l) : l - (intOf (.int .i64 ((j : Int) + 1))).toNat < l - (intOf (.int .i64 (j : Int))).toNat:=by
 have e : ((j : Int) + 1).toNat = j + 1:=by omega
 simp only [intOf]
 rw [e,Int.toNat_natCast]
 omega
theorem equal_any (a1 a2 : Option Addr) (l1 l2 c1 c2 : Nat) (xs ys : List UInt8) (w : World) (h1 : Bs w a1 l1 c1 xs) (h2 : Bs w a2 l2 c2 ys) :
  Calls Tryz.prog 207 #[.slice a1 l1 c1,.slice a2 l2 c2] w fun e w' => e = .returned (.bool (decide (xs = ys))) /\ Below w.heap.size w w':=by
 have hl1:=h1.1
 have hl2:=h2.1
 have hc1:=h1.2.1
 have hc2:=h2.2.1
 have HM:=qh (Nat.le_trans hc1 h1.2.2.1)
 obtain ⟨r,hr⟩:=qnm (decide (xs = ys))
 rw [<- hr]
 have HR:=qh hr
 clear hr
 by_cases hl : l1 = l2
 ·subst hl
  obtain ⟨b1,o1,H1⟩ : ∃ b o,Hid (0 < l1 -> a1 = some ⟨b,o,none⟩ /\ ∀ i (h : i < xs.length),w.cell? ⟨b,o + i,none⟩ = some (.int .u8 (xs[i].toNat : Int))):=by
   rcases h1.2.2.2 with h | ⟨b,off,z1,z2,z3⟩
   ·exact ⟨0,0,qh fun h' => by omega⟩
   ·exact ⟨b,off,qh fun _ => ⟨z1,z3⟩⟩
  obtain ⟨b2,o2,H2⟩ : ∃ b o,Hid (0 < l1 -> a2 = some ⟨b,o,none⟩ /\ ∀ i (h : i < ys.length),w.cell? ⟨b,o + i,none⟩ = some (.int .u8 (ys[i].toNat : Int))):=by
   rcases h2.2.2.2 with h | ⟨b,off,z1,z2,z3⟩
   ·exact ⟨0,0,qh fun h' => by omega⟩
   ·exact ⟨b,off,qh fun _ => ⟨z1,z3⟩⟩
  have hne : ((l1 : Int) != (l1 : Int)) = false:=by simp
  clear h1 h2
  go_enter Tryz.func207,Tryz.ntmps207
  go_wp2_with fail
  go_loopw [13] (fun i wr => ∃ j : Nat,j <= l1 /\ i = .int .i64 j /\ (∀ b o,wr.cell? ⟨b,o,none⟩ = w.cell? ⟨b,o,none⟩) /\ Below w.heap.size w wr /\ xs.take j = ys.take j) (fun i _ => l1 - (intOf i).toNat)
  case atStart => exact ⟨0,by omega,rfl,fun _ _ => rfl,Below.refl _ _,by simp⟩
  case round =>
   obtain ⟨j,hj,rfl,hcw,hbl,htk⟩:=hrel
   have HC:=qh hcw
   have HT:=qh htk
   clear hcw htk
   by_cases hlt : j < l1
   ·obtain ⟨z1,z2⟩:=H1.out (by omega)
    obtain ⟨z3,z4⟩:=H2.out (by omega)
    subst z1 z3
    have d1:=(HC.out b1 (o1 + j)).trans (z2 j (by omega))
    have d2:=(HC.out b2 (o2 + j)).trans (z4 j (by omega))
    have hw : wrap64 ((j : Int) + 1) = (j : Int) + 1:=wrap_succ hlt HM.out
    have hj0 : (0 : Int) <= (j : Int):=by omega
    have hj1 : (j : Int) < (l1 : Int):=by omega
    clear z2 z4
    by_cases hx : xs[j] = ys[j]
    ·have hb : (((xs[j]'(by omega)).toNat : Int) != ((ys[j]'(by omega)).toNat : Int)) = false:=by rw [hx]; simp
     have HX:=qh hx
     clear hx
     go_wp2_with fail
     go_region
     go_wp2_with fail
     go_roundw
     case rel => exact ⟨j + 1,by omega,by go_num,fun b o => (HC.out b o),hbl.drew,by rw [List.take_succ_eq_append_getElem (by omega),List.take_succ_eq_append_getElem (by omega),HT.out,HX.out]⟩
     case measure => rw [hw]; exact meas_succ hlt
    ·have hb : (((xs[j]'(by omega)).toNat : Int) != ((ys[j]'(by omega)).toNat : Int)) = true:=by
      rw [bne_iff_ne]
      intro h
      exact hx (UInt8.toNat_inj.1 (by omega))
     have hrf : r = false:=by
      rw [HR.out,decide_eq_false_iff_not]
      intro h; subst h; exact hx rfl
     subst hrf
     clear HR hx
     go_wp2_with fail
     go_region
     go_wp2_with fail
     go_ret
     exact ⟨rfl,hbl.drew⟩
   ·obtain rfl : j = l1:=by omega
    have hrt : r = true:=by
     rw [HR.out,decide_eq_true_iff]
     have:=HT.out
     rwa [List.take_of_length_le (by omega),List.take_of_length_le (by omega)] at this
    subst hrt
    go_wp2_with fail
    go_ret
    exact ⟨rfl,hbl⟩
 ·have hne : ((l1 : Int) != (l2 : Int)) = true:=by rw [bne_iff_ne]; omega
  have hrf : r = false:=by
   rw [HR.out,decide_eq_false_iff_not]
   intro h; subst h; omega
  subst hrf
  clear h1 h2 HR
  go_enter Tryz.func207,Tryz.ntmps207
  go_wp2_with fail
  go_ret
  exact ⟨rfl,Below.refl _ _⟩
def nil0 (l : List UInt8) : Bool:=l.all (· == 0)
theorem nil0_cons (x : UInt8) (l : List UInt8) : nil0 (x :: l) = ((x == 0) && nil0 l):=rfl
theorem nil0_drop {xs : List UInt8} {j : Nat} (hj : j < xs.length) (hx : xs[j] = 0) (h : nil0 (xs.drop (j + 1)) = true) : nil0 (xs.drop j) = true:=by
 rw [List.drop_eq_getElem_cons hj,nil0_cons,hx,h]; rfl
theorem nil0_not {xs : List UInt8} {j : Nat} (hj : j < xs.length) (hx : xs[j] ≠ 0) : nil0 xs = false:=by
 unfold nil0
 rw [List.all_eq_false]
 exact ⟨xs[j],List.getElem_mem _,by simp [hx]⟩
theorem nil0_getD {xs : List UInt8} {j : Nat} (h : xs.getD j 0 ≠ 0) : nil0 xs = false:=by
 by_cases hj : j < xs.length
 ·exact nil0_not hj (by rwa [List.getD_eq_getElem?_getD,List.getElem?_eq_getElem hj] at h)
 ·exact absurd (by rw [List.getD_eq_getElem?_getD,List.getElem?_eq_none (by omega)]; rfl) h
def slLen : Value -> Nat
 | .slice _ k _ => k
 | _ => 0
theorem slLen_slice (a : Option Addr) (k c : Nat) : slLen (.slice a k c) = k:=rfl
theorem byte_ne {x : UInt8} (h : x ≠ 0) : ((x.toNat : Int) == 0) = false:=by
 rw [beq_eq_false_iff_ne]; intro e; exact h (UInt8.toNat_inj.1 (by
   have : x.toNat = 0:=by omega
   rw [this]; rfl))
theorem trimr_any (a : Option Addr) (len cap : Nat) (xs : List UInt8) (w : World) (h : Bs w a len cap xs) :
  Calls Tryz.prog 162 #[.slice a len cap,.int .u8 0] w fun e w' => (∃ k,e = .returned (.slice a k cap) /\ k <= len /\ nil0 (xs.drop k) = true /\ (0 < k -> ∃ i,i < k /\ xs.getD i 0 ≠ 0)) /\ w = w':=by
 have hxl:=h.1
 have hcap:=h.2.1
 have hmax:=h.2.2.1
 obtain ⟨b,off,H1⟩ : ∃ b o,Hid (0 < len -> a = some ⟨b,o,none⟩ /\ ∀ i (h : i < xs.length),w.cell? ⟨b,o + i,none⟩ = some (.int .u8 (xs[i].toNat : Int))):=by
  rcases h.2.2.2 with h | ⟨b,off,z1,z2,z3⟩
  ·exact ⟨0,0,qh fun h' => by omega⟩
  ·exact ⟨b,off,qh fun _ => ⟨z1,z3⟩⟩
 have HX:=qh hxl
 have HM:=qh hmax
 clear h hxl hmax
 go_enter Tryz.func162,Tryz.ntmps162
 go_wp2_with fail
 go_loopw [0] (fun s wr => ∃ k : Nat,s = .slice a k cap /\ k <= len /\ Hid (nil0 (xs.drop k) = true) /\ w = wr) (fun s _ => slLen s)
 case atStart => exact ⟨len,rfl,Nat.le_refl _,qh (by rw [List.drop_eq_nil_of_le (by rw [HX.out]; exact Nat.le_refl _)]; rfl),rfl⟩
 case round =>
  obtain ⟨k,rfl,hk,HN,rfl⟩:=hrel
  by_cases h0 : k = 0
  ·subst h0
   go_wp2_with fail
   go_ret
   exact ⟨⟨0,rfl,by omega,HN.out,fun h => by omega⟩,rfl⟩
  ·obtain ⟨j,hj⟩ : ∃ j,k = j + 1:=⟨k - 1,by omega⟩
   have hmax:=HM.out
   unfold maxLen at hmax
   have i1 : IntKind.i64.wrap ((k : Int) - 1) = (j : Int):=by rw [IntWalk.i64_in _ (by omega)]; omega
   have e0 : (0 : Int) < (k : Int):=by omega
   have e1 : (0 : Int) <= (j : Int):=by omega
   have e2 : (j : Int) < (k : Int):=by omega
   have e3 : (j : Int) <= (cap : Int):=by omega
   have e4 : j <= cap:=by omega
   obtain ⟨rfl,z⟩:=H1.out (by omega)
   have hjx : j < xs.length:=by rw [HX.out]; omega
   have hc:=z j hjx
   have HJ:=qh hj
   clear z hj h0 hmax
   by_cases hx : xs[j] = 0
   ·have hq : (((xs[j]'hjx).toNat : Int) == 0) = true:=by rw [hx]; rfl
    have HQ:=qh hx
    clear hx
    go_wp2_with fail
    go_roundw
    case rel => exact ⟨j,rfl,by have:=HJ.out; omega,qh (nil0_drop hjx HQ.out (by rw [<- HJ.out]; exact HN.out)),by first | rfl | trivial⟩
    case measure => rw [slLen_slice,slLen_slice]; have:=HJ.out; omega
   ·have hq:=byte_ne hx
    have HQ:=qh hx
    clear hx
    go_wp2_with fail
    go_ret
    exact ⟨⟨k,rfl,hk,HN.out,fun _ => ⟨j,by have:=HJ.out; omega,by simpa [List.getElem?_eq_getElem hjx] using HQ.out⟩⟩,rfl⟩
theorem triml_any (a : Option Addr) (len cap : Nat) (xs : List UInt8) (w : World) (h : Bs w a len cap xs) (hne : 0 < len -> nil0 xs = false) :
  Calls Tryz.prog 161 #[.slice a len cap,.int .u8 0] w fun e w' => (∃ a' k c',e = .returned (.slice a' k c') /\ (k = 0 ↔ len = 0)) /\ w = w':=by
 have HE:=qh hne
 have HB:=qh h
 clear h hne
 go_enter Tryz.func161,Tryz.ntmps161
 go_wp2_with fail
 go_loopw [0] (fun s wr => ∃ a' k c' ys,s = .slice a' k c' /\ Hid (Bs w a' k c' ys) /\ Hid (k = 0 ↔ len = 0) /\ Hid (0 < k -> nil0 ys = false) /\ w = wr) (fun s _ => slLen s)
 case atStart => exact ⟨a,len,cap,xs,rfl,HB,qh Iff.rfl,HE,rfl⟩
 case round =>
  obtain ⟨a',k,c',ys,rfl,HB1,HK,HE1,rfl⟩:=hrel
  by_cases h0 : k = 0
  ·subst h0
   go_wp2_with fail
   go_ret
   refine ⟨?_,?_⟩
   ·exact ⟨none,0,⟨0,rfl⟩,by simpa using HK.out⟩
   ·first | rfl | trivial
  ·have hB:=HB1.out
   rcases hB.2.2.2 with h | ⟨b,off,rfl,z2,z3⟩
   ·exact absurd h h0
   ·have hyl:=hB.1
    have hcc:=hB.2.1
    have e0 : (0 : Int) < (k : Int):=by omega
    have e1 : (1 : Int) <= (k : Int):=by omega
    have e2 : 1 <= k:=by omega
    have hc0:=z3 0 (by omega)
    rw [Nat.add_zero] at hc0
    have hne0 : ¬ k = 0:=h0
    have hne1 : ((k : Int) == 0) = false:=by rw [beq_eq_false_iff_ne]; omega
    have hy:=HE1.out (by omega)
    cases ys with
    | nil => simp at hyl; omega
    | cons y ys =>
     have hc : w.cell? ⟨b,off,none⟩ = some (.int .u8 (y.toNat : Int)):=hc0
     rw [nil0_cons] at hy
     have HYL:=qh hyl
     have HY:=qh hy
     clear z3 h0 hc0 hyl hy hB
     by_cases hx : y = 0
     ·have hq : ((y.toNat : Int) == 0) = true:=by rw [hx]; rfl
      have hD:=HB1.out.drop (k:=1) (by omega)
      have hk1 : k - 1 = 0 -> False:=fun h => by
       have h1:=HYL.out
       have h2:=HY.out
       rw [List.length_cons] at h1
       have : ys = []:=List.eq_nil_of_length_eq_zero (by omega)
       subst this
       rw [hx] at h2
       simp [nil0] at h2
      have hys : nil0 ys = false:=by have h2:=HY.out; rw [hx] at h2; simpa using h2
      obtain ⟨ad,had⟩ : ∃ ad,(if c' = 1 then (some ⟨b,off,none⟩ : Option Addr) else (some ⟨b,off,none⟩ : Option Addr).map (·.add 1)) = ad:=⟨_,rfl⟩
      rw [had] at hD
      have HD:=qh hD
      have HK1:=qh hk1
      have HYS:=qh hys
      clear hx hD hk1 hys
      by_cases hc1 : c' = 1
      ·exact absurd (show k - 1 = 0 by omega) HK1.out
      ·rw [if_neg hc1] at had
       subst had
       go_wp2_with fail
       go_roundw
       case rel => exact ⟨_,k - 1,c' - 1,ys,rfl,HD,qh ⟨fun h => (HK1.out h).elim,fun h => by have:=HK.out.2 h; omega⟩,qh (fun _ => HYS.out),by first | rfl | trivial⟩
       case measure => rw [slLen_slice,slLen_slice]; omega
     ·have hq:=byte_ne hx
      clear hx
      go_wp2_with fail
      go_ret
      exact ⟨⟨_,k,_,rfl,HK.out⟩,rfl⟩
theorem trimr_b (a : Option Addr) (len cap : Nat) (xs : List UInt8) (w : World) (h : Bs w a len cap xs) :
  Calls Tryz.prog 162 #[.slice a len cap,.int .u8 0] w fun e w' => (∃ k,e = .returned (.slice a k cap) /\ k <= len /\ nil0 (xs.drop k) = true /\ (0 < k -> ∃ i,i < k /\ xs.getD i 0 ≠ 0)) /\ Below w.heap.size w w' :=
 (trimr_any a len cap xs w h).mono fun e w' ⟨h1,h2⟩ => ⟨h1,by rw [<- h2]; exact Below.refl _ _⟩
theorem triml_b (a : Option Addr) (len cap : Nat) (xs : List UInt8) (w : World) (h : Bs w a len cap xs) (hne : 0 < len -> nil0 xs = false) :
  Calls Tryz.prog 161 #[.slice a len cap,.int .u8 0] w fun e w' => (∃ a' k c',e = .returned (.slice a' k c') /\ (k = 0 ↔ len = 0)) /\ Below w.heap.size w w' :=
 (triml_any a len cap xs w h hne).mono fun e w' ⟨h1,h2⟩ => ⟨h1,by rw [<- h2]; exact Below.refl _ _⟩
theorem trim_left (xs : List UInt8) (k : Nat) (hi : 0 < k -> ∃ i,i < k /\ xs.getD i 0 ≠ 0) : 0 < k -> nil0 (xs.take k) = false:=fun h => by
 obtain ⟨i,hik,hx⟩:=hi h
 refine nil0_getD (j:=i) ?_
 rw [List.getD_eq_getElem?_getD,List.getElem?_take,if_pos hik,<- List.getD_eq_getElem?_getD]
 exact hx
theorem trim_end (xs : List UInt8) (k k' : Nat) (hN : nil0 (xs.drop k) = true) (hi : 0 < k -> ∃ i,i < k /\ xs.getD i 0 ≠ 0) (hkk : k' = 0 ↔ k = 0) : 0 < k' ↔ nil0 xs = false:=by
 constructor
 ·intro h
  obtain ⟨i,_,hx⟩:=hi (by omega)
  exact nil0_getD hx
 ·intro h
  refine Nat.pos_of_ne_zero fun h0 => ?_
  rw [hkk.1 h0,List.drop_zero,h] at hN
  cases hN
theorem trim_any (a : Option Addr) (len cap : Nat) (xs : List UInt8) (w : World) (h : Bs w a len cap xs) :
  Calls Tryz.prog 91 #[.slice a len cap,.string ⟨#[0]⟩] w fun e w' => (∃ a' k c',e = .returned (.slice a' k c') /\ (0 < k ↔ nil0 xs = false)) /\ Below w.heap.size w w':=by
 by_cases h0 : len = 0
 ·subst h0
  have hxs : xs = []:=List.eq_nil_of_length_eq_zero h.1
  subst hxs
  go_enter Tryz.func91,Tryz.ntmps91
  go_wp2_with fail
  go_ret
  exact ⟨⟨_,0,_,rfl,by simp [nil0]⟩,Below.refl _ _⟩
 ·have hne : ((len : Int) == 0) = false:=by rw [beq_eq_false_iff_ne]; omega
  have hz : (((⟨#[0]⟩ : ByteArray)[0]'(by decide)).toNat : Int) = 0:=rfl
  have hB:=h
  have hE:=Ext.refl w
  clear h
  go_enter Tryz.func91,Tryz.ntmps91
  go_upto_region 6 with fail
  obtain ⟨wd,hwd⟩:=qnm w.drew
  have hb : Below w.heap.size w wd:=by rw [hwd]; exact (Below.refl _ _).drew
  have hB:=hB.below hb
  have hE:=hE.step hb
  clear hb
  refine held_start (by kernel_rfl) (fun hHeld => ?_)
  rw [<- hwd] at hHeld ⊢
  clear hwd
  refine qth 0 21 ?_
  simp only [qz0,qz1]
  refine qth 1 22 ?_
  simp only [qz0,qz1]
  refine qth 2 23 ?_
  simp only [qz0,qz1]
  refine qth 4 25 ?_
  simp only [qz0,qz1]
  refine qth 5 26 ?_
  simp only [qz0,qz1]
  refine wpAnyH_ready (rs:=[3]) (by kernel_rfl) (by simp) ?_
  refine (AllReadyH.cons rfl (fun K hK => ?_) AllReadyH.nil)
  go_simp
  refine (trimr_b _ _ _ xs _ (hB.below hHeld)).mono ?_
  rintro e w1x ⟨⟨k,rfl,hk,hN,hi⟩,hb⟩
  have hbt:=HB.trans hHeld hb
  have hB:=hB.below hbt
  have hE:=hE.step hbt
  have hT:=hB.take hk
  have hL:=trim_left xs k hi
  go_wp2_with fail
  refine hK.out _ _ hbt (fun _ => held_next hbt (fun hHeld2 => ?_))
  clear hK hHeld hb hbt K
  have hHeld:=hHeld2
  clear hHeld2
  refine wpAnyH_ready (rs:=[6]) (by kernel_rfl) (by simp) ?_
  refine (AllReadyH.cons rfl (fun K hK => ?_) AllReadyH.nil)
  go_simp
  refine (triml_b _ _ _ _ _ hT hL).mono ?_
  rintro e w2x ⟨⟨a',k',c',rfl,hkk⟩,hb⟩
  have hbt:=HB.trans hHeld hb
  have hB:=hB.below hbt
  have hE:=hE.step hbt
  have hT:=hT.below hbt
  go_wp2_with fail
  refine hK.out _ _ hbt (fun _ => held_next hbt (fun hHeld2 => ?_))
  clear hK hHeld hb hbt K
  have hHeld:=hHeld2
  clear hHeld2
  refine qth 7 4 ?_
  simp only [qz0,qz1]
  refine wpAnyH_done (by kernel_rfl) ?_ _
  go_wp2_with fail
  go_ret
  exact ⟨⟨_,_,_,rfl,trim_end xs k k' hN hi hkk⟩,(hE.step hHeld).1⟩
end
end Go.Proofs.YtabdcphioccgnaaGreatDoor
