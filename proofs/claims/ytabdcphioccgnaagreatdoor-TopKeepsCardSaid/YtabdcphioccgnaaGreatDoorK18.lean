/- ML; AppL; Leaves; Build0; MerkA; MapClone; Concat. -/
import Derived.BigFrame
import Derived.Laws.CopyOwn
import Derived.Lib.AppendZeros
import Derived.Lib.AppendZerosOnto
import Derived.RangeFuncRecord
import Derived.Shelf.SlMaps.Clone
import Derived.Test.YtabdcphioccgnaaGreatDoorK11
import Derived.Test.YtabdcphioccgnaaGreatDoorK17
set_option maxRecDepth 100000
set_option maxHeartbeats 8000000
namespace Go.Proofs.YtabdcphioccgnaaGreatDoor
section
open Go.RowKit
abbrev TBS : TypeId:=30
abbrev TLL : TypeId:=229
def LL (w : World) (a : Option Addr) (len cap : Nat) (ls : List (List UInt8)) : Prop :=
 ls.length = len /\ len <= cap /\ cap <= maxLen /\ (len = 0 ∨ ∃ b off,a = some ⟨b,off,none⟩ /\ b < w.heap.size /\ ∀ i (h : i < ls.length),∃ a' m c,w.cell? ⟨b,off + i,none⟩ = some (.slice a' m c) /\ Bs w a' m c ls[i])
theorem LL.nil (w : World) : LL w none 0 0 []:=⟨rfl,Nat.le_refl _,by simp [maxLen],.inl rfl⟩
theorem LL.below {w w' : World} {a : Option Addr} {len cap : Nat} {ls : List (List UInt8)} (h : LL w a len cap ls) (hb : Below w.heap.size w w') : LL w' a len cap ls:=by
 obtain ⟨h1,h2,h3,h4⟩:=h
 refine ⟨h1,h2,h3,?_⟩
 rcases h4 with h4 | ⟨b,off,h4,h5,h6⟩
 ·exact .inl h4
 ·refine .inr ⟨b,off,h4,Nat.lt_of_lt_of_le h5 hb.size,fun i hi => ?_⟩
  obtain ⟨a',m,c,h7,h8⟩:=h6 i hi
  exact ⟨a',m,c,by rw [hb.cell (p:=⟨b,off + i,none⟩) h5]; exact h7,h8.below hb⟩
theorem LL.take {w : World} {a : Option Addr} {len cap : Nat} {ls : List (List UInt8)} (h : LL w a len cap ls) {k : Nat} (hk : k <= len) : LL w a k cap (ls.take k):=by
 obtain ⟨h1,h2,h3,h4⟩:=h
 refine ⟨by simp; omega,by omega,h3,?_⟩
 rcases h4 with h4 | ⟨b,off,h4,h5,h6⟩
 ·exact .inl (by omega)
 ·exact .inr ⟨b,off,h4,h5,fun i hi => by simp at hi; obtain ⟨a',m,c,h7,h8⟩:=h6 i (by omega); exact ⟨a',m,c,h7,by simpa using h8⟩⟩
theorem LL.drop {w : World} {a : Option Addr} {len cap : Nat} {ls : List (List UInt8)} (h : LL w a len cap ls) {k : Nat} (hk : k <= len) : LL w (if cap = k then a else a.map (·.add k)) (len - k) (cap - k) (ls.drop k):=by
 obtain ⟨h1,h2,h3,h4⟩:=h
 refine ⟨by simp; omega,by omega,by omega,?_⟩
 rcases h4 with h4 | ⟨b,off,h4,h5,h6⟩
 ·exact .inl (by omega)
 ·by_cases hc : cap = k
  ·exact .inl (by omega)
  ·rw [if_neg hc,h4]
   refine .inr ⟨b,off + k,?_,h5,fun i hi => by simp at hi; obtain ⟨a',m,c,h7,h8⟩:=h6 (k + i) (by omega); exact ⟨a',m,c,by rw [Nat.add_assoc]; exact h7,by simpa using h8⟩⟩
   by_cases hk0 : k = 0 <;> simp [Addr.add,hk0]
theorem LL.at {w : World} {a : Option Addr} {len cap : Nat} {ls : List (List UInt8)} (h : LL w a len cap ls) (h0 : 0 < len) : ∃ b off,a = some ⟨b,off,none⟩ /\ b < w.heap.size /\ ∀ i,i < len -> ∃ a' m c,w.cell? ⟨b,off + i,none⟩ = some (.slice a' m c) /\ Bs w a' m c (ls.getD i []):=by
 obtain ⟨h1,_,_,h4⟩:=h
 rcases h4 with h4 | ⟨b,off,h4,h5,h6⟩
 ·omega
 ·refine ⟨b,off,h4,h5,fun i hi => ?_⟩
  obtain ⟨a',m,c,h7,h8⟩:=h6 i (by omega)
  exact ⟨a',m,c,h7,by rw [List.getD_eq_getElem?_getD,List.getElem?_eq_getElem (by omega)]; exact h8⟩
def Rws (w : World) (o : Option Nat) (vs : List Value) (ls : List (List UInt8)) : Prop :=
 vs.length = ls.length /\ ∀ i (h : i < ls.length),∃ a m c,vs[i]? = some (.slice a m c) /\ Bs w a m c ls[i] /\ (0 < m -> ∀ ad,a = some ad -> o ≠ some ad.block)
def OwnL (w : World) (B : Nat) (v : Value) (ls : List (List UInt8)) : Prop:=∃ vs : List Value,w.ownsRow B TBS 1 v ls.length vs /\ Rws w v.ownBlock vs ls
theorem OwnL.nil (w : World) (B : Nat) : OwnL w B (.slice none 0 0) []:=⟨[],World.ownsRow_nil w B TBS 1,rfl,fun i h => by simp at h⟩
theorem Bs.blk' {w : World} {a : Option Addr} {len cap : Nat} {xs : List UInt8} (h : Bs w a len cap xs) (h0 : 0 < len) (ad : Addr) (ha : a = some ad) : ad.block < w.heap.size:=by
 rcases h.2.2.2 with h1 | ⟨b,o,e,h5,_⟩
 ·omega
 ·rw [e] at ha; injection ha with ha; rw [<- ha]; exact h5
theorem Bs.grown {w w' : World} {row : Option Nat} {a : Option Addr} {len cap : Nat} {xs : List UInt8} (h : Bs w a len cap xs) (hg : w.grownBy w' row) (hn : 0 < len -> ∀ ad,a = some ad -> row ≠ some ad.block) : Bs w' a len cap xs:=by
 obtain ⟨h1,h2,h3,h4⟩:=h
 refine ⟨h1,h2,h3,?_⟩
 rcases h4 with h4 | ⟨b,off,rfl,h5,h6⟩
 ·exact .inl h4
 ·by_cases h0 : len = 0
  ·exact .inl h0
  ·refine .inr ⟨b,off,rfl,Nat.lt_of_lt_of_le h5 hg.size,fun i hi => ?_⟩
   rw [<- h6 i hi]
   exact World.cell?_of_block (a:=⟨b,off + i,none⟩) (hg.block b h5 (fun e => hn (by omega) _ rfl e.symm))
theorem OwnL.below {w w' : World} {B : Nat} {v : Value} {ls : List (List UInt8)} (h : OwnL w B v ls) (hb : Below w.heap.size w w') : OwnL w' B v ls:=by
 obtain ⟨vs,h1,h2,h3⟩:=h
 refine ⟨vs,⟨h1.1,?_⟩,h2,fun i hi => ?_⟩
 ·rcases h1.2 with h4 | ⟨g,cap,cur,h5,h6,h7,h8⟩
  ·exact .inl h4
  ·exact .inr ⟨g,cap,cur,h5,h6,(hb.block g (Array.getElem?_eq_some_iff.1 h7).1).trans h7,h8⟩
 ·obtain ⟨a,m,c,h4,h5,h6⟩:=h3 i hi
  exact ⟨a,m,c,h4,h5.below hb,h6⟩
theorem OwnL.lt {w : World} {B : Nat} {v : Value} {ls : List (List UInt8)} (h : OwnL w B v ls) : ∀ k,v.ownBlock = some k -> B <= k /\ k < w.heap.size:=by
 obtain ⟨vs,h1,_⟩:=h
 exact World.ownsRow.lt h1
theorem OwnL.ll {w : World} {B n : Nat} {v : Value} {ls : List (List UInt8)} (h : OwnL w B v ls) (hn : ls.length = n) : ∃ a cap,v = .slice a n cap /\ LL w a n cap ls:=by
 subst hn
 obtain ⟨vs,h1,h2,h3⟩:=h
 rcases h1.2 with ⟨rfl,h4⟩ | ⟨g,cap,cur,rfl,h6,h7,h8,h9,h10,h11⟩
 ·obtain rfl:=List.length_eq_zero_iff.1 h4
  exact ⟨none,0,rfl,LL.nil w⟩
 ·refine ⟨some ⟨g,0,none⟩,cap,rfl,rfl,h8,h9,.inr ⟨g,0,rfl,(Array.getElem?_eq_some_iff.1 h7).1,fun i hi => ?_⟩⟩
  obtain ⟨a,m,c,h4,h5,_⟩:=h3 i hi
  refine ⟨a,m,c,?_,h5⟩
  rw [Nat.zero_add,<- h4]
  exact World.ownsRow.cellAt (size:=1) h1 i (by omega)
theorem OwnL.one (w : World) {a : Option Addr} {m c : Nat} {xs : List UInt8} (h : Bs w a m c xs) : OwnL (w.alloc (.cells #[.slice a m c] TBS)) w.heap.size (.slice (some ⟨w.heap.size,0,none⟩) 1 1) [xs]:=by
 refine ⟨[.slice a m c],?_,rfl,fun i hi => ?_⟩
 ·exact World.ownsRow_lit w #[.slice a m c] 1 (Nat.le_refl _) (by simp [maxLen]) rfl
 ·match i,hi with
  | 0,_ =>
   refine ⟨a,m,c,rfl,h.alloc _,fun h0 ad had e => ?_⟩
   have:=h.blk' h0 ad had
   simp [Value.ownBlock] at e
   omega
theorem LL.one (w : World) {a : Option Addr} {m c : Nat} {xs : List UInt8} (h : Bs w a m c xs) : LL (w.alloc (.cells #[.slice a m c] TBS)) (some ⟨w.heap.size,0,none⟩) 1 1 [xs]:=by
 obtain ⟨a',c',e,h1⟩:=(OwnL.one w h).ll (n:=1) rfl
 injection e with e1 e2 e3
 subst e1 e3
 exact h1
theorem infoTS : (Tryz.prog.info? TBS).map (fun i => (i.zero,i.size,i.bytes)) = some (some (.slice none 0 0),1,24):=by kernel_rfl
theorem info_parts' {i? : Option TypeInfo} {z : Value} {s b : Nat} (h : i?.map (fun i => (i.zero,i.size,i.bytes)) = some (some z,s,b)) : ∃ i,i? = some i /\ i.zero = some z /\ i.size = s /\ i.bytes = b:=by
 cases i? with
 | none => cases h
 | some i => simp at h; exact ⟨i,rfl,h.1,h.2.1,h.2.2⟩
theorem run_append_ll {w : World} (B : Nat) (v : Value) (ls : List (List UInt8)) (h : OwnL w B v ls) (ad : Option Addr) (m c : Nat) (ys : List (List UInt8)) (hB : LL w ad m c ys)
  (hap : ∀ b off,ad = some ⟨b,off,none⟩ -> ∀ i,i < m -> ∀ a' m' c',w.cell? ⟨b,off + i,none⟩ = some (.slice a' m' c') -> 0 < m' -> ∀ x,a' = some x -> v.ownBlock ≠ some x.block) (ty : TypeId) (hlen : ls.length + m <= 1000000) (hbase : B <= w.heap.size) :
  ∃ v' w',(Builtin.append_ #[229,229] ty #[v,.slice ad m c]).run Tryz.prog w = .ok v' w' /\ OwnL w' B v' (ls ++ ys) /\ w.grownBy w' v.ownBlock /\ (v'.ownBlock = v.ownBlock ∨ v'.ownBlock = some w.heap.size):=by
 obtain ⟨i,hi,hz0,hz1,hz2⟩:=info_parts' infoTS
 obtain ⟨vs,h1,h2,h3⟩:=h
 by_cases hm : m = 0
 ·subst hm
  obtain rfl:=List.length_eq_zero_iff.1 hB.1
  refine ⟨v,w,?_,by rw [List.append_nil]; exact ⟨vs,h1,h2,h3⟩,⟨rfl,rfl,rfl,Nat.le_refl _,fun _ _ _ => rfl⟩,.inl rfl⟩
  cases ad with
  | none => exact run_append_none0 (P:=Tryz.prog) (w:=w) B TLL ty TBS i 1 Tryz.underlying229 hi v _ c _ h1
  | some ad =>
   rcases h1.2 with ⟨rfl,h4⟩ | ⟨g,cap,cur,rfl,h6,h7,h8,_⟩
   ·simp [Builtin.append_,run_underlying Tryz.underlying229,sizeOf,typeInfo,hi,Builtin.lenOf,Builtin.firstCells,loadCells,loadCellsFrom]
   ·simp [Builtin.append_,run_underlying Tryz.underlying229,sizeOf,typeInfo,hi,Builtin.lenOf,Builtin.firstCells,storeCells,h8,loadCells,loadCellsFrom]
 ·obtain ⟨b,off,rfl,hbw,hc⟩:=hB.at (by omega)
  have hx : ∀ j,j < m -> ∃ u : Value,w.cell? ⟨b,off + j,none⟩ = some u /\ u.oneCell' = true /\ ∃ a' m' c',u = .slice a' m' c' /\ Bs w a' m' c' (ys.getD j []):=fun j hj => by
   obtain ⟨a',m',c',h7,h8⟩:=hc j hj
   exact ⟨_,h7,rfl,a',m',c',rfl,h8⟩
  obtain ⟨f,hf⟩:=Deep.choose_lt hx
  obtain ⟨v',w',r,k1,k2,_,k4⟩:=run_append_own_at (P:=Tryz.prog) w B TLL ty TBS i (.slice none 0 0) 1 24 Tryz.underlying229 hi hz0 hz1 hz2 rfl (by decide) v ls.length vs h1 ⟨b,off,none⟩ m c ((List.range m).map f) (by simp) (fun j u hu => by
   obtain ⟨hj,rfl⟩:=List.getElem?_eq_some_iff.1 hu
   simp at hj
   have he : (⟨b,off,none⟩ : Addr).add j = ⟨b,off + j,none⟩:=by by_cases hi0 : j = 0 <;> simp [Addr.add,hi0]
   rw [he]
   simpa using (hf j hj).1) (fun u hu => by
   obtain ⟨j,hj,rfl⟩:=List.mem_map.1 hu
   exact (hf j (by simpa using hj)).2.1) (by unfold maxLen; omega) (by omega) hbase
  refine ⟨v',w',r,⟨_,by rw [List.length_append,hB.1]; exact k1,by simp [h2,hB.1],fun j hj => ?_⟩,k2,k4⟩
  have hnew : ∀ (a : Option Addr) (m' c' : Nat) (zs : List UInt8),Bs w a m' c' zs -> (0 < m' -> ∀ x,a = some x -> v.ownBlock ≠ some x.block) -> Bs w' a m' c' zs /\ (0 < m' -> ∀ x,a = some x -> v'.ownBlock ≠ some x.block):=fun a m' c' zs hz hn =>
   ⟨hz.grown k2 hn,fun h0 x hx => by
    rcases k4 with k4 | k4
    ·rw [k4]; exact hn h0 x hx
    ·rw [k4]; intro e; injection e with e; have:=hz.blk' h0 x hx; omega⟩
  by_cases hjl : j < ls.length
  ·obtain ⟨a,m',c',h4,h5,h6⟩:=h3 j hjl
   obtain ⟨q1,q2⟩:=hnew _ _ _ _ h5 h6
   exact ⟨a,m',c',by rw [List.getElem?_append_left (by omega)]; exact h4,by rw [List.getElem_append_left hjl]; exact q1,q2⟩
  ·rw [List.length_append] at hj
   have hjm : j - ls.length < m:=by have:=hB.1; omega
   obtain ⟨p1,_,a',m',c',p3,p4⟩:=hf (j - ls.length) hjm
   rw [p3] at p1
   obtain ⟨q1,q2⟩:=hnew _ _ _ _ p4 (hap b off rfl (j - ls.length) hjm a' m' c' p1)
   refine ⟨a',m',c',?_,?_,q2⟩
   ·rw [List.getElem?_append_right (by omega),h2,List.getElem?_map,List.getElem?_range hjm,<- p3]; rfl
   ·rw [List.getElem_append_right (by omega)]
    rw [List.getD_eq_getElem?_getD,List.getElem?_eq_getElem (by omega)] at q1
    exact q1
theorem run_append_row {w : World} (B : Nat) (v : Value) (ls : List (List UInt8)) (h : OwnL w B v ls) (a : Option Addr) (m c : Nat) (ys : List UInt8) (hy : Bs w a m c ys) (hap : 0 < m -> ∀ x,a = some x -> v.ownBlock ≠ some x.block) (ty : TypeId) (hlen : ls.length + 1 <= 1000000) (hbase : B <= w.heap.size) :
  ∃ v' w',(Builtin.append_ #[229,229] ty #[v,.slice (some ⟨w.heap.size,0,none⟩) 1 1]).run Tryz.prog (w.alloc (.cells #[.slice a m c] TBS)) = .ok v' w' /\ OwnL w' B v' (ls ++ [ys]) /\ (w.alloc (.cells #[.slice a m c] TBS)).grownBy w' v.ownBlock:=by
 obtain ⟨v',w',h1,h2,h3,_⟩:=run_append_ll B v ls (h.below ((Below.refl _ _).alloc (Nat.le_refl _) (.cells #[.slice a m c] TBS))) _ 1 1 [ys] (LL.one w hy) (fun b off e i hi a' m' c' hc h0 x hx => by
  injection e with e; injection e with e1 e2
  obtain rfl : i = 0:=by omega
  subst e1 e2
  rw [World.cell?_alloc_mark] at hc
  injection hc with hc; injection hc with d1 d2 d3
  subst d1 d2
  exact hap h0 x hx) ty hlen (by simp; omega)
 exact ⟨v',w',h1,h2,h3⟩
theorem wpList_append_row_w {w : World} {ops : Array Oper} {rest : List Oper} {o : Oper} {a : Act} {Q : Exit -> Act -> World -> Prop} (hgd : Region.wanted o (yielded ops a.tmps) = true) (s x : Operand)
  (ho : o.op = .call { callee:=.builtin .append,args:=#[s,x],argTypes:=#[229,229] }) (hx : a.eval x = .slice (some ⟨w.heap.size,0,none⟩) 1 1)
  (B : Nat) (v : Value) (ls : List (List UInt8)) (hs : a.eval s = v) (h : OwnL w B v ls) (a' : Option Addr) (m c : Nat) (ys : List UInt8) (hy : Bs w a' m c ys) (hap : 0 < m -> ∀ x,a' = some x -> v.ownBlock ≠ some x.block)
  (hlen : ls.length + 1 <= 1000000) (hbase : B <= w.heap.size)
  (hh : ∀ v' w',OwnL w' B v' (ls ++ [ys]) -> (w.alloc (.cells #[.slice a' m c] TBS)).grownBy w' v.ownBlock -> wpList Tryz.prog ops Q rest (a.put o.dst v') w') : wpList Tryz.prog ops Q (o :: rest) a (w.alloc (.cells #[.slice a' m c] TBS)):=by
 refine BigFrame.wpList_want hgd fun _ hK => ?_
 obtain ⟨v',w',hr,h2,h3⟩:=run_append_row B v ls h a' m c ys hy hap o.type hlen hbase
 unfold Oper.wp execOp
 simp only [ho,resolve,invoke,builtin,Sem.run_bind,Sem.run_pure,Result.andThen_ok,List.map_toArray,List.map_cons,List.map_nil,hs,hx,hr]
 exact hK _ _ (hh v' w' h2 h3)
def Rc.bytes (r : Rc) : List UInt8:=recBytes r.k.toNat r.q r.ys
theorem OwnL.apart2 {w w2 : World} {B0 : Nat} {v : Value} {ls : List (List UInt8)} {a : Option Addr} {m c N : Nat} {ys : List UInt8} (_hO : OwnL w B0 v ls) (ho : Own w2 N (.slice a m c) ys) (hv : ∀ k,v.ownBlock = some k -> k < N) : 0 < m -> ∀ x,a = some x -> v.ownBlock ≠ some x.block:=fun _ x hx e => by
 rcases ho.parts with ⟨h1,_⟩ | ⟨g,cap,h1,h2,_⟩
 ·injection h1 with h1; rw [h1] at hx; cases hx
 ·injection h1 with h1; rw [h1] at hx; injection hx with hx; subst hx
  have:=hv _ e
  simp at this; omega
theorem leaves_any (a : Option Addr) (len cap : Nat) (ls : List Rc) (w : World) (hR : Recs w a len cap ls) (hl : len <= 1000) (hok : ∀ r ∈ ls,RecOk r.k r.q r.m) :
  Calls Tryz.prog 140 #[.slice a len cap] w fun e w' => ∃ v,e = .returned v /\ OwnL w' w.heap.size v (ls.map Rc.bytes) /\ Below w.heap.size w w':=by
 obtain ⟨gb,go,HAT⟩:=hR.at
 have HL:=qh hR.1
 have HOK:=qh hok
 clear hR hok
 go_enter Tryz.func140,Tryz.ntmps140
 go_wp2_with fail
 go_loopw [3,10] (fun out i wr => ∃ k : Nat,k <= len /\ i = .int .i64 (k : Int) /\ OwnL wr w.heap.size out ((ls.take k).map Rc.bytes) /\ Ext w.heap.size w wr) (fun _ i _ => len - (intOf i).toNat)
 case atStart => exact ⟨0,by omega,rfl,OwnL.nil _ _,Ext.refl w⟩
 case round =>
  obtain ⟨k,hk,rfl,hO,hE⟩:=hrel
  by_cases hlt : k < len
  ·obtain ⟨rfl,hgb,hcells⟩:=HAT.out (by omega)
   have hk2 : k < ls.length:=by rw [HL.out]; exact hlt
   have hc:=hcells k hk2
   have hro:=HOK.out _ (List.getElem_mem hk2)
   have hty:=List.take_append_getElem hk2
   clear hcells
   generalize ls[k]'hk2 = r at hc hro hty
   have HB0:=qh hc.2.2.2.2
   obtain ⟨rk,rq,ra,rm,rcap,rys⟩:=r
   obtain ⟨hc0,hc1,hc2,hq,hB⟩:=hc
   simp only at hc0 hc1 hc2 hq hB hro
   have c0:=(hE.1.cell (p:=⟨gb,go + k * 3,none⟩) hgb).trans hc0
   have c1:=(hE.1.cell (p:=⟨gb,go + k * 3 + 1,none⟩) hgb).trans hc1
   have c2:=(hE.1.cell (p:=⟨gb,go + k * 3 + 2,none⟩) hgb).trans hc2
   have hBr:=(hB.below hE.1).alloc (.cells #[.int .i64 rk,.int .u64 (rq : Int),.slice ra rm rcap] 69)
   obtain ⟨K,rfl⟩ : ∃ K : Nat,rk = (K : Int):=⟨rk.toNat,by have:=hro.2.2; omega⟩
   have hrl:=recBytes_length K rq rys (by have:=hB.1; have:=hro.2.1; omega)
   have HN:=qh (recenc_ok K rq ra rm rcap rys _ hBr hro)
   have e1 : (0 : Int) <= (k : Int):=by omega
   have e2 : (k : Int) < (len : Int):=by omega
   obtain ⟨k2,hk2'⟩:=qnm (k + 1)
   have e3 : IntKind.i64.wrap ((k : Int) + 1) = (k2 : Int):=by rw [IntWalk.i64_in _ (by omega)]; omega
   have HT:=qh hty
   have HK:=qh hk2'
   have hE0:=qh (hE.alloc (.cells #[.int .i64 (K : Int),.int .u64 (rq : Int),.slice ra rm rcap] 69))
   have hltO : ∀ q,u3.ownBlock = some q -> w.heap.size <= q /\ q < wr.heap.size:=hO.lt
   have hO0:=qh (hO.below ((Below.refl _ wr).alloc (Nat.le_refl _) (.cells #[.int .i64 (K : Int),.int .u64 (rq : Int),.slice ra rm rcap] 69)))
   have hlen : ((ls.take k).map Rc.bytes).length <= 1000:=by simp; omega
   have HLT:=qh hltO
   have HLN:=qh hlen
   clear hc0 hc1 hc2 hB hq hk2 hty hk2' hE hO hBr hro hltO hlen hk
   go_wp2_with fail
   refine HN.out.mono ?_
   rintro e w2 ⟨v2,rfl,ho2,hb2⟩
   obtain ⟨N,hN⟩:=qnm ((recBytes K rq rys).length)
   obtain ⟨a2,c2',rfl,hB2⟩:=ho2.bsn hN.symm
   have hO2:=hO0.out.below hb2
   have hE2:=qh (hE0.out.step hb2)
   have hap:=OwnL.apart2 hO2 ho2 (fun q hq => by have:=(HLT.out q hq).2; simp; omega)
   clear hb2 ho2 hO0 hE0 c0 c1 c2 hN
   go_wp2_with (at_builtin; (refine wpList_append_row_w (by rfl) _ _ rfl rfl w.heap.size u3 ((ls.take k).map Rc.bytes) rfl hO2 a2 N c2' _ hB2 hap (by have:=HLN.out; omega) hE2.out.2 ?_; intro v3 w4 hO3 hg3))
   go_roundw
   case rel =>
    have hk2:=HK.out
    refine ⟨k2,by omega,rfl,?_,Ext.grown (hE2.out.alloc _) hg3 (fun q hq => (HLT.out q hq).1)⟩
    rw [hk2,<- HT.out,List.map_append]
    exact hO3
   case measure =>
    have hk2:=HK.out
    show len - (k2 : Int).toNat < len - (k : Int).toNat
    omega
  ·obtain rfl : k = len:=by omega
   clear hlt
   rw [List.take_of_length_le (by rw [HL.out]; exact Nat.le_refl _)] at hO
   go_wp2_with fail
   go_ret
   exact ⟨_,rfl,hO,hE.1⟩
theorem four_any (c : Nat) (w : World) (hcl : c < 4294967296) :
  Calls Tryz.prog 142 #[.int .u32 (c : Int)] w fun e w' => ∃ v,e = .returned v /\ Own w' w.heap.size v (be c 4) /\ Below w.heap.size w w':=by
 have hb : be c 4 = [UInt8.ofNat (c / 16777216),UInt8.ofNat (c / 65536),UInt8.ofNat (c / 256),UInt8.ofNat c]:=by simp [be]
 rw [hb]
 clear hb
 go_enter Tryz.func142,Tryz.ntmps142
 go_wp2
 go_ret
 refine ⟨_,rfl,Own.of_row (Row.made w _ 4 4 _ rfl rfl (by omega) (by simp [maxLen]) ?_) (Nat.le_refl _),((Ext.refl w).alloc _).1⟩
 simp [bv,UInt8.toNat_ofNat']
 omega
def allB (ls : List Rc) : List UInt8:=(ls.map Rc.bytes).flatten
def segHead (i f c n : Nat) (P R : List UInt8) : List UInt8:=be i 2 ++ (be f 8 ++ (be c 2 ++ (be n 2 ++ (P ++ R))))
def segBytes (i f : Nat) (P : List UInt8) (ls : List Rc) : List UInt8 :=
 segHead i f ls.length (allB ls).length P (mroot (ls.map Rc.bytes)) ++ (be (crcMore 0 (segHead i f ls.length (allB ls).length P (mroot (ls.map Rc.bytes)))) 4 ++ (allB ls ++ List.replicate (942 - (allB ls).length) 0))
theorem fitsN_all : ∀ (ls : List Rc) (left : Nat),(∀ r ∈ ls,r.ys.length = r.m) -> fitsN left ls = ls.length -> (∀ r ∈ ls,RecOk r.k r.q r.m) /\ (allB ls).length <= left
 | [],_,_,_ => ⟨fun _ h => by simp at h,by simp [allB]⟩
 | r :: rs,left,hy,h => by
  rw [fitsN_cons] at h
  by_cases hc : RecOk r.k r.q r.m /\ 15 + r.m <= left
  ·rw [if_pos hc,List.length_cons] at h
   obtain ⟨h1,h2⟩:=fitsN_all rs (left - (15 + r.m)) (fun x hx => hy x (List.mem_cons_of_mem _ hx)) (by omega)
   have hyr:=hy r (List.mem_cons_self ..)
   have hb : r.bytes.length = 15 + r.m:=by
    unfold Rc.bytes
    rw [recBytes_length _ _ _ (by have:=hc.1.2.1; omega),hyr]
   refine ⟨fun x hx => ?_,?_⟩
   ·rcases List.mem_cons.1 hx with rfl | hx
    ·exact hc.1
    ·exact h1 x hx
   ·unfold allB at h2 ⊢
    rw [List.map_cons,List.flatten_cons,List.length_append,hb]
    omega
  ·rw [if_neg hc] at h
   simp at h
theorem Recs.ys_len {w : World} {a : Option Addr} {len cap : Nat} {ls : List Rc} (h : Recs w a len cap ls) : ∀ r ∈ ls,r.ys.length = r.m:=fun r hr => by
 obtain ⟨i,hi,rfl⟩:=List.getElem_of_mem hr
 rcases h.2.2.2 with h0 | ⟨b,off,_,_,h3⟩
 ·have:=h.1; omega
 ·exact (h3 i hi).2.2.2.2.1
theorem part_any (n : Nat) (w : World) (hn : n <= 1000000) :
  Calls Tryz.prog 199 #[.int .i64 (n : Int)] w fun e w' => e = .returned (.int .i64 ((mpart n : Nat) : Int)) /\ w = w':=by
 go_enter Tryz.func199,Tryz.ntmps199
 go_wp2_with fail
 go_loopw [3] (fun i wr => ∃ k : Nat,i = .int .i64 (k : Int) /\ 0 < k /\ k <= 1000000 /\ partF n k = mpart n /\ w = wr) (fun i _ => n - (intOf i).toNat)
 case atStart => exact ⟨1,rfl,by omega,by omega,rfl,rfl⟩
 case round =>
  obtain ⟨k,rfl,hk0,hk,hp,rfl⟩:=hrel
  have i1 : IntKind.i64.wrap ((n : Int) - (k : Int)) = (n : Int) - (k : Int):=IntWalk.i64_in _ (by omega)
  have i2 : IntKind.i64.wrap ((k : Int) + (k : Int)) = (k : Int) + (k : Int):=IntWalk.i64_in _ (by omega)
  by_cases hlt : 2 * k < n
  ·have hp2 : partF n (2 * k) = mpart n:=by rw [<- partF_go hk0 hlt]; exact hp
   have HP:=qh hp2
   clear hp hp2
   have e1 : (k : Int) < (n : Int) - (k : Int):=by omega
   go_wp2_with fail
   go_roundw
   case rel => exact ⟨2 * k,by go_num,by omega,by omega,HP.out,trivial⟩
   case measure => simp [intOf]; omega
  ·rw [partF_stop hlt] at hp
   subst hp
   have e1 : ¬ (mpart n : Int) < (n : Int) - (mpart n : Int):=by omega
   go_wp2_with fail
   go_ret
   exact ⟨rfl,rfl⟩
theorem root_any (n : Nat) : ∀ (a : Option Addr) (cap : Nat) (ls : List (List UInt8)) (w : World),LL w a n cap ls -> (∀ x ∈ ls,x.length <= 1000) -> n <= 1000 ->
  Calls Tryz.prog 141 #[.slice a n cap] w fun e w' => ∃ v,e = .returned v /\ Own w' w.heap.size v (mroot ls) /\ Below w.heap.size w w':=by
 induction n using Nat.strongRecOn with
 | _ n ih =>
 intro a cap ls w hL hx hn
 have IH:=qh ih
 clear ih
 have HX:=qh hx
 clear hx
 by_cases h0 : n = 0
 ·subst h0
  have hl:=hL.1
  obtain rfl:=List.length_eq_zero_iff.1 hl
  rw [mroot_nil]
  clear hl hL
  go_enter Tryz.func141,Tryz.ntmps141
  go_wp2_with fail
  refine (shasum_any none 0 0 [] w (Bs.nil w) (by omega)).mono ?_
  rintro e w1 ⟨v,rfl,hO,hb⟩
  go_wp2_with fail
  go_ret
  exact ⟨_,rfl,hO,hb⟩
 ·by_cases h1 : n = 1
  ·subst h1
   obtain ⟨b,off,rfl,hb,hc⟩:=hL.at (by omega)
   obtain ⟨a',m,c,hc1,hB⟩:=hc 0 (by omega)
   clear hc
   obtain ⟨x,rfl⟩:=List.length_eq_one_iff.1 hL.1
   rw [mroot_one]
   have hB : Bs w a' m c x:=hB
   have hxl : m <= 1000:=by rw [<- hB.1]; exact HX.out x (by simp)
   have HB:=qh hB
   rw [Nat.add_zero] at hc1
   clear hB hL
   go_enter Tryz.func141,Tryz.ntmps141
   go_wp2_with fail
   refine (shaleaf_any a' m c x w HB.out (by omega)).mono ?_
   rintro e w1 ⟨v,rfl,hO,hb⟩
   go_wp2_with fail
   go_ret
   exact ⟨_,rfl,hO,hb⟩
  ·have hp:=mpart_spec (n:=n) (by omega)
   have hll:=hL.1
   have hcap:=hL.2.1
   have HR : Hid (mroot ls = sha (1 :: (mroot (ls.take (mpart n)) ++ mroot (ls.drop (mpart n))))):=qh (by rw [mroot_more (by omega),hll])
   have hx1 : ∀ x ∈ ls.take (mpart n),x.length <= 1000:=fun x h => HX.out x (List.mem_of_mem_take h)
   have hx2 : ∀ x ∈ ls.drop (mpart n),x.length <= 1000:=fun x h => HX.out x (List.mem_of_mem_drop h)
   have hT:=hL.take (k:=mpart n) (by omega)
   have hD:=hL.drop (k:=mpart n) (by omega)
   obtain ⟨ad,had⟩ : ∃ ad,(if cap = mpart n then a else a.map (·.add (mpart n))) = ad:=⟨_,rfl⟩
   rw [had] at hD
   have HT:=qh hT
   have HD:=qh hD
   have HP:=qh hp
   have e1 : (0 : Int) <= ((mpart n : Nat) : Int):=by omega
   have e2 : ((mpart n : Nat) : Int) <= (n : Int):=by omega
   have e3 : ((mpart n : Nat) : Int) <= (cap : Int):=by omega
   have e4 : mpart n <= n:=by omega
   have e5 : mpart n <= cap:=by omega
   have g0 : ((n : Int) == 0) = false:=by rw [beq_eq_false_iff_ne]; omega
   have g1 : ((n : Int) == 1) = false:=by rw [beq_eq_false_iff_ne]; omega
   clear hll hT hD hp hL
   have HPA:=qh (fun W => part_any n W (by omega))
   skip
   go_enter Tryz.func141,Tryz.ntmps141
   go_wp2_with fail
   refine (HPA.out _).mono ?_
   rintro e wq ⟨rfl,rfl⟩
   go_upto_region 4 with fail
   obtain ⟨wd,hwd⟩:=qnm w.drew
   have hb : Below w.heap.size w wd:=by rw [hwd]; exact (Below.refl _ _).drew
   clear hb
   refine held_start (by kernel_rfl) (fun hHeld => ?_)
   rw [<- hwd] at hHeld ⊢
   have HWD:=qh (show Below w.heap.size w wd by rw [hwd]; exact (Below.refl _ _).drew)
   have hT:=HT.out.below HWD.out
   have hD:=HD.out.below HWD.out
   clear hwd
   refine qth 0 10 ?_
   simp only [qz0,qz1]
   refine qth 1 11 ?_
   simp only [qz0,qz1]
   refine qth 2 12 ?_
   simp only [qz0,qz1]
   refine qth 4 14 ?_
   simp only [qz0,qz1]
   refine qth 5 15 ?_
   simp only [qz0,qz1]
   refine qth 6 16 ?_
   simp only [qz0,qz1]
   refine wpAnyH_ready (rs:=[3]) (by kernel_rfl) (by simp) ?_
   refine (AllReadyH.cons rfl (fun K hK => ?_) AllReadyH.nil)
   go_simp
   refine (IH.out (mpart n) HP.out.1 _ _ _ _ (hT.below hHeld) hx1 (by omega)).mono ?_
   rintro e w1x ⟨v1,rfl,hO1,hb⟩
   have hbt:=HB.trans hHeld hb
   obtain ⟨a1,c1,rfl,hB1⟩:=hO1.bsn (n:=32) (mroot_length _)
   go_wp2_with fail
   refine hK.out _ _ hbt (fun _ => ?_)
   clear hK hHeld K
   have hHeld:=hbt
   clear hb hbt
   refine wpAnyH_ready (rs:=[7]) (by kernel_rfl) (by simp) ?_
   refine (AllReadyH.cons rfl (fun K hK => ?_) AllReadyH.nil)
   go_simp
   refine (IH.out (n - mpart n) (by have:=HP.out; omega) _ _ _ _ (hD.below hHeld) hx2 (by omega)).mono ?_
   rintro e w2x ⟨v2,rfl,hO2,hb⟩
   have hbt:=HB.trans hHeld hb
   have hB1:=hB1.below hb
   obtain ⟨a2,c2,rfl,hB2⟩:=hO2.bsn (n:=32) (mroot_length _)
   go_wp2_with fail
   refine hK.out _ _ hbt (fun _ => ?_)
   clear hK hHeld K
   have hHeld:=hbt
   clear hb hbt
   refine wpAnyH_ready (rs:=[8]) (by kernel_rfl) (by simp) ?_
   refine (AllReadyH.cons rfl (fun K hK => ?_) AllReadyH.nil)
   go_simp
   refine (shapair_any _ _ _ _ _ _ _ _ _ hB1 hB2 (by omega)).mono ?_
   rintro e w3x ⟨v3,rfl,hO3,hb⟩
   have hbt:=HB.trans hHeld hb
   have hB1:=hB1.below hb
   have hB2:=hB2.below hb
   have hO3:=hO3.weaken (B:=wd.heap.size) (Below.size hHeld)
   go_wp2_with fail
   refine hK.out _ _ hbt (fun _ => ?_)
   clear hK hHeld K
   have hHeld:=hbt
   clear hb hbt
   refine qth 9 2 ?_
   simp only [qz0,qz1]
   refine wpAnyH_done (by kernel_rfl) ?_ _
   go_wp2_with fail
   go_ret
   rw [HR.out]
   exact ⟨_,rfl,hO3.weaken (Below.size HWD.out),Below.trans HWD.out (Below.mono hHeld (Below.size HWD.out))⟩
end
section
open Go.RowKit Go.ChangeMaps Go.MapKept
theorem mclone_block (b : Nat) (es : Array MapEntry) (clock : Nat) (w : World) (hb : w.heap[b]? = some (.map es clock)) :
  Calls Tryz.prog 110 #[.map (some b)] w fun e w' => e = .returned (.map (some w.heap.size)) /\ w' = w.alloc (.map es clock):=by
 have hq:=fun w => run_eql_map_nil_sl (P:=Tryz.prog) w 190 _ _ (some b) Tryz.underlying190
 go_enter Tryz.func110,Tryz.ntmps110
 go_wp2
 rw [run_callFunc_extern Tryz.func182 (by kernel_rfl) (by kernel_rfl) (by kernel_rfl) (e:=Extern.MapsClone.clone) (by kernel_rfl),run_maps_clone_sl w 190 hb]
 simp only [Result.andThen]
 rw [Oper.upon_value]
 go_wp2
 rw [run_typeAssert_map_sl _ 190 20 _ _ _ Tryz.underlying190]
 simp only [Result.andThen]
 rw [Oper.upon_value]
 go_wp2
 go_ret
 exact ⟨rfl,rfl⟩
theorem mclone_nil (w : World) :
  Calls Tryz.prog 110 #[.map none] w fun e w' => e = .returned (.map none) /\ w' = w:=by
 have hq:=fun w => run_eql_map_nil_sl (P:=Tryz.prog) w 190 _ _ none Tryz.underlying190
 go_enter Tryz.func110,Tryz.ntmps110
 go_wp2
 go_ret
 exact ⟨rfl,rfl⟩
theorem mclone_any (b : Nat) (l : List (List UInt8 × Value)) (w : World) (h : MapAt strS Tryz.prog TStr w b l) :
  Calls Tryz.prog 110 #[.map (some b)] w fun e w' => e = .returned (.map (some w.heap.size)) /\ MapAt strS Tryz.prog TStr w' w.heap.size l /\ Below w.heap.size w w':=by
 obtain ⟨es,clock,hb,F,hs,hD⟩:=h
 refine (mclone_block b es clock w hb).mono fun e w' ⟨he,hw⟩ => ?_
 subst hw
 exact ⟨he,⟨es,clock,(MapKept.heap_alloc w _).1,F,hs,hD⟩,(Below.refl _ w).alloc (Nat.le_refl _) _⟩
end
section
open Go.RowKit
theorem run_grow_zeros (w : World) (ty : TypeId) (n : Nat) (h0 : 0 < n) (hn : n <= 1000000) :
  ∃ cap w',(Builtin.append_ #[30,3] ty #[.slice none 0 0,.int .i64 (n : Int)]).run Tryz.prog w = .ok (.slice (some ⟨w.heap.size,0,none⟩) n cap) w' /\ Row w' w.heap.size cap [] /\ n <= cap /\ Below w.heap.size w w':=by
 obtain ⟨i,hi,hz0,hz1,hz2⟩:=info_parts infoTB
 have hr:=Lib.run_append_nil_zeros (P:=Tryz.prog) w 30 3 ty TB i (.int .u8 0) .i64 .i64 Tryz.underlying30 Tryz.underlying3 hi hz0 n h0 (by omega) (by omega) (by rw [hz2]; omega)
 refine ⟨_,_,hr,?_,grownCap_ge _ _ _ _,((Below.refl _ w).drew).alloc (by simp) _⟩
 have h1 : (w.drew.alloc (.cells (Builtin.zeroCells (Value.int .u8 0).cells n ++ Builtin.zeroCells (Value.int .u8 0).cells (grownCap w n 0 TB - n)) TB)).heap[w.heap.size]? = some (.cells (Builtin.zeroCells (Value.int .u8 0).cells n ++ Builtin.zeroCells (Value.int .u8 0).cells (grownCap w n 0 TB - n)) TB (0,0)):=by
  have:=World.alloc_heap_new w.drew (.cells (Builtin.zeroCells (Value.int .u8 0).cells n ++ Builtin.zeroCells (Value.int .u8 0).cells (grownCap w n 0 TB - n)) TB)
  simpa using this
 have h2:=grownCap_ge w n 0 TB
 exact ⟨_,h1,by simp [Builtin.zeroCells,Value.cells]; omega,Nat.zero_le _,grownCap_le_maxLen _ _ _ _ (by unfold maxLen; omega),by simp⟩
theorem grow_any (n : Nat) (w : World) (hn : n <= 1000000) :
  Calls Tryz.prog 174 #[.slice none 0 0,.int .i64 (n : Int)] w fun e w' => ∃ v,e = .returned v /\ Own w' w.heap.size v [] /\ Below w.heap.size w w':=by
 obtain ⟨H,hH⟩:=qnm w.heap.size
 rcases Nat.eq_zero_or_pos n with rfl | h0
 ·go_enter Tryz.func174,Tryz.ntmps174
  go_wp2_with fail
  go_ret
  exact ⟨_,rfl,Own.nil _ _,Below.refl _ _⟩
 ·have e1 : ¬ (n : Int) < 0:=by omega
  have e2 : (0 : Int) < (n : Int):=by omega
  have e3 : IntKind.i64.wrap (n : Int) = (n : Int):=by rw [IntWalk.i64_in _ (by omega)]
  obtain ⟨cap,w1,hr,hR,hc,hb⟩:=run_grow_zeros w 30 n h0 hn
  have HR:=qh hR
  have HBl:=qh hb
  go_enter Tryz.func174,Tryz.ntmps174
  go_wp2_with (at_builtin; refine Lib.wpList_append_run _ rfl _ _ _ _ rfl _ _ rfl rfl _ _ hr ?_)
  go_ret
  refine ⟨_,rfl,?_,HBl.out⟩
  have:=Own.of_row HR.out (Nat.le_refl w.heap.size)
  simpa using this
theorem Own.ofs {w : World} {B : Nat} {v : Value} {xs : List UInt8} (h : Own w B v xs) : ∀ k,v.ownBlock = some k -> B <= k:=by
 intro k hk
 rcases h.parts with ⟨rfl,_⟩ | ⟨g,cap,rfl,h2,_⟩
 ·simp [Value.ownBlock] at hk
 ·simp [Value.ownBlock] at hk; omega
theorem flat_succ (ls : List (List UInt8)) (k : Nat) (h : k < ls.length) : (ls.take (k + 1)).flatten = (ls.take k).flatten ++ ls.getD k []:=by
 rw [List.take_succ_eq_append_getElem h,List.flatten_append]
 simp [List.getD_eq_getElem?_getD,List.getElem?_eq_getElem h]
theorem flatC_le (ls : List (List UInt8)) (k : Nat) : (ls.take k).flatten.length <= ls.flatten.length:=by
 conv => rhs; rw [<- List.take_append_drop k ls]
 rw [List.flatten_append,List.length_append]; omega
theorem concat_any (n cap : Nat) (a : Option Addr) (ls : List (List UInt8)) (w : World) (hL : LL w a n cap ls) (hn : n <= 100000) (hl : ls.flatten.length <= 1000000) :
  Calls Tryz.prog 99 #[.slice a n cap] w fun e w' => ∃ v,e = .returned v /\ Own w' w.heap.size v ls.flatten /\ Below w.heap.size w w':=by
 have hE:=Ext.refl w
 obtain ⟨H,hH⟩:=qnm w.heap.size
 rw [<- hH] at hE ⊢
 have HH:=qh hH
 have HL:=qh hL
 have HN:=qh hL.1
 have HF:=qh hl
 clear hH hL hl
 go_enter Tryz.func99,Tryz.ntmps99
 go_upto_block 0 with fail
 go_cut [3] (fun s wr => s = .int .i64 (ls.flatten.length : Int) /\ wr = w)
 case first =>
  go_wp2_with fail
  go_loopw [3,11] (fun s i wr => ∃ k S : Nat,k <= n /\ i = .int .i64 k /\ s = .int .i64 (S : Int) /\ S = (ls.take k).flatten.length /\ wr = w) (fun _ i _ => n - (intOf i).toNat)
  case atStart => exact ⟨0,0,by omega,rfl,rfl,rfl,rfl⟩
  case round =>
   obtain ⟨k,S,hk,rfl,rfl,hS,rfl⟩:=hrel
   have HS:=qh hS
   clear hS
   by_cases hlt : k < n
   ·obtain ⟨b,off,rfl,hbw,hc⟩:=HL.out.at (by omega)
    obtain ⟨a',m,c,hcell,hB⟩:=hc k hlt
    have hsum : S + m <= 1000000 /\ S + m = (ls.take (k + 1)).flatten.length:=by
     have h1:=flat_succ ls k (by rw [HN.out]; exact hlt)
     have h2:=flatC_le ls (k + 1)
     have h3:=congrArg List.length h1
     rw [List.length_append,<- HS.out,hB.1] at h3
     have:=HF.out
     omega
    obtain ⟨hs1,hs2⟩:=hsum
    have HS2:=qh hs2
    clear hc hB hs2
    have e1 : (0 : Int) <= (k : Int):=by omega
    have e2 : (k : Int) < (n : Int):=by omega
    have e3 : ¬ ((S : Int) + (m : Int)) < 0:=by omega
    go_wp2_with fail
    go_roundw
    case rel => exact ⟨k + 1,S + m,by omega,by go_num,by go_num,HS2.out,trivial⟩
    case measure => simp [intOf]; omega
   ·obtain rfl : k = n:=by omega
    have htk : ls.take k = ls:=List.take_of_length_le (by rw [HN.out]; omega)
    go_wp2_with fail
    go_meet
    exact ⟨by rw [HS.out,htk],rfl⟩
 case rest =>
  obtain ⟨rfl,rfl⟩:=hcut
  have HG:=qh (grow_any ls.flatten.length wc HF.out)
  obtain ⟨F,hF⟩:=qnm ls.flatten.length
  rw [<- hF] at HG ⊢
  have HFL:=qh hF
  clear hF
  go_wp2_with fail
  refine HG.out.mono ?_
  rintro e w1 ⟨v0,rfl,hO,hb⟩
  rw [<- HH.out] at hO
  have hE1:=hE.step hb
  clear hb HG hE
  go_wp2_with fail
  go_loopw [6,27] (fun s i wx => ∃ k : Nat,k <= n /\ i = .int .i64 k /\ Own wx H s (ls.take k).flatten /\ Ext H wc wx) (fun _ i _ => n - (intOf i).toNat)
  case atStart => exact ⟨0,by omega,rfl,hO,hE1⟩
  case round =>
   obtain ⟨k,hk,rfl,hOk,hEk⟩:=hrel
   clear hO hE1
   by_cases hlt : k < n
   ·obtain ⟨b,off,rfl,hbw,hc⟩:=HL.out.at (by omega)
    obtain ⟨a',m,c,hcell,hB⟩:=hc k hlt
    have hcell':=(hEk.1.cell (p:=⟨b,off + k,none⟩) (by rw [HH.out]; exact hbw)).trans hcell
    have hB':=hB.below (by rw [<- HH.out]; exact hEk.1)
    have hsum : (ls.take k).flatten.length + m <= 140737488355328:=by
     have h2:=flatC_le ls k
     have h3:=hB.1
     have h4 : (ls.getD k []).length <= ls.flatten.length:=by
      have h1:=flat_succ ls k (by rw [HN.out]; exact hlt)
      have h2:=flatC_le ls (k + 1)
      have h3:=congrArg List.length h1
      rw [List.length_append] at h3
      omega
     have:=HF.out
     omega
    have HB':=qh hB'
    have HO:=qh hOk
    have HS:=qh hsum
    have HE:=qh hEk
    have HC:=qh (flat_succ ls k (by rw [HN.out]; exact hlt))
    clear hc hB hcell hB' hOk hsum hEk
    have e1 : (0 : Int) <= (k : Int):=by omega
    have e2 : (k : Int) < (n : Int):=by omega
    go_wp2_with (at_builtin; refine wpList_append_at rfl _ _ rfl H _ _ rfl HO.out a' m c _ rfl HB'.out HS.out HE.out.2 ?_; intro v' W1 h1 h2 _)
    have hE2:=HE.out.grown h2 HO.out.ofs
    rw [<- HC.out] at h1
    go_roundw
    case rel => exact ⟨k + 1,by omega,by go_num,h1,hE2⟩
    case measure => simp [intOf]; omega
   ·obtain rfl : k = n:=by omega
    have htk : ls.take k = ls:=List.take_of_length_le (by rw [HN.out]; omega)
    rw [htk] at hOk
    go_wp2_with fail
    go_ret
    exact ⟨_,rfl,hOk,hEk.1⟩
end
end Go.Proofs.YtabdcphioccgnaaGreatDoor
