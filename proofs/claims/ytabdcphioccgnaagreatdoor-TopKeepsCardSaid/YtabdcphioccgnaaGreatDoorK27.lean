/- Turns; StOpen; Split. -/
import Derived.Lib.Strings
import Derived.Lib.Walk
import Derived.Test.YtabdcphioccgnaaGreatDoorK26
set_option maxRecDepth 100000
set_option maxHeartbeats 8000000
namespace Go.Proofs.YtabdcphioccgnaaGreatDoor
section
open Go.RowKit Go.ChangeMaps Go.MapKept
def turnsN (k : Nat) : Bool:=!(k == 4 || k == 11 || k == 12 || k == 17)
theorem turns_any (k : Nat) (hk : 1 <= k /\ k <= 17) (ps ts : ByteArray) (fd at_ n : Int) (til : Nat) (sp : Int) (da : Option Addr) (dl dc : Nat) (w : World) :
  Calls Tryz.prog 17 #[.agg (ovCells (k : Int) ps ts fd at_ n til sp da dl dc)] w fun e w' => e = .returned (.bool (turnsN k)) /\ Below w.heap.size w w':=by
 obtain ⟨w0,hw0⟩:=qnm (w.alloc (.cells (ovCells (k : Int) ps ts fd at_ n til sp da dl dc) TOp))
 have hz0 : w0.heap[w.heap.size]? = some (.cells (ovCells (k : Int) ps ts fd at_ n til sp da dl dc) TOp (0,0)):=by rw [hw0]; exact heap_alloc_new w _
 have o0 : w0.cell? ⟨w.heap.size,0,none⟩ = some (.int .i64 (k : Int)):=cells_at hz0 0
 have HB:=qh (show Below w.heap.size w w0 by rw [hw0]; exact (Below.refl _ w).alloc (Nat.le_refl _) _)
 have HW0:=qh hw0
 clear hz0 hw0
 go_enter Tryz.func17,Tryz.ntmps17
 go_upto_region 1 with fail
 rw [<- HW0.out]
 clear HW0
 obtain rfl | rfl | rfl | rfl | rfl | rfl | rfl | rfl | rfl | rfl | rfl | rfl | rfl | rfl | rfl | rfl | rfl : k = 1 ∨ k = 2 ∨ k = 3 ∨ k = 4 ∨ k = 5 ∨ k = 6 ∨ k = 7 ∨ k = 8 ∨ k = 9 ∨ k = 10 ∨ k = 11 ∨ k = 12 ∨ k = 13 ∨ k = 14 ∨ k = 15 ∨ k = 16 ∨ k = 17:=by omega
 all_goals clear hk
 all_goals go_wp2_with fail
 all_goals go_ret
 all_goals exact ⟨rfl,HB.out⟩
def safeN (k : Nat) (wr : Bool) : Nat:=if k = 17 then 2 else if k = 14 then 1 else if k = 6 /\ wr = true then 1 else 0
theorem safe_any (k : Nat) (hk : 1 <= k /\ k <= 17) (ps ts : ByteArray) (fd at_ n : Int) (til : Nat) (sp : Int) (da : Option Addr) (dl dc : Nat) (wr : Bool) (w : World) :
  Calls Tryz.prog 21 #[.agg (ovCells (k : Int) ps ts fd at_ n til sp da dl dc),.bool wr] w fun e w' => e = .returned (.int .i64 (safeN k wr : Int)) /\ Below w.heap.size w w':=by
 obtain ⟨w0,hw0⟩:=qnm (w.alloc (.cells (ovCells (k : Int) ps ts fd at_ n til sp da dl dc) TOp))
 have hz0 : w0.heap[w.heap.size]? = some (.cells (ovCells (k : Int) ps ts fd at_ n til sp da dl dc) TOp (0,0)):=by rw [hw0]; exact heap_alloc_new w _
 have o0 : w0.cell? ⟨w.heap.size,0,none⟩ = some (.int .i64 (k : Int)):=cells_at hz0 0
 have HB:=qh (show Below w.heap.size w w0 by rw [hw0]; exact (Below.refl _ w).alloc (Nat.le_refl _) _)
 have HW0:=qh hw0
 clear hz0 hw0
 go_enter Tryz.func21,Tryz.ntmps21
 go_upto_region 1 with fail
 rw [<- HW0.out]
 clear HW0
 obtain rfl | rfl | rfl | rfl | rfl | rfl | rfl | rfl | rfl | rfl | rfl | rfl | rfl | rfl | rfl | rfl | rfl : k = 1 ∨ k = 2 ∨ k = 3 ∨ k = 4 ∨ k = 5 ∨ k = 6 ∨ k = 7 ∨ k = 8 ∨ k = 9 ∨ k = 10 ∨ k = 11 ∨ k = 12 ∨ k = 13 ∨ k = 14 ∨ k = 15 ∨ k = 16 ∨ k = 17:=by omega
 all_goals clear hk
 all_goals cases wr
 all_goals go_wp2_with fail
 all_goals go_ret
 all_goals exact ⟨rfl,HB.out⟩
end
section
open Go.RowKit Go.ChangeMaps Go.MapKept
theorem OwnI.nil (w : World) (B : Nat) : OwnI w B (.slice none 0 0) []:=World.ownsRow_nil w B TI64 1
theorem OwnI.alloc {w : World} {B : Nat} {v : Value} {l : List Nat} (h : OwnI w B v l) (o : Obj) : OwnI (w.alloc o) B v l:=h.below ((Below.refl _ _).alloc (Nat.le_refl _) o)
theorem OwnI.blk {w : World} {B : Nat} {v : Value} {l : List Nat} (h : OwnI w B v l) : ∀ k,v.ownBlock = some k -> B <= k:=fun k hk => (World.ownsRow.lt h k hk).1
theorem infoTI64 : (Tryz.prog.info? TI64).map (fun i => (i.zero,i.size,i.bytes)) = some (some (.int .i64 0),1,8):=by kernel_rfl
theorem run_append_int1 {w : World} (B : Nat) (v : Value) (ls : List Nat) (h : OwnI w B v ls) (x : Nat) (ty : TypeId) (hlen : ls.length + 1 <= 1000000) (hbase : B <= w.heap.size) :
  ∃ v' w',(Builtin.append_ #[71,71] ty #[v,.slice (some ⟨w.heap.size,0,none⟩) 1 1]).run Tryz.prog (w.alloc (.cells #[.int .i64 (x : Int)] TI64)) = .ok v' w' /\ OwnI w' B v' (ls ++ [x]) /\
   (w.alloc (.cells #[.int .i64 (x : Int)] TI64)).grownBy w' v.ownBlock:=by
 obtain ⟨i,hi,hz0,hz1,hz2⟩:=info_any infoTI64
 obtain ⟨v',w',h1,h2,h3,_,h5⟩:=run_append_own_at (P:=Tryz.prog) (w.alloc (.cells #[.int .i64 (x : Int)] TI64)) B 71 ty TI64 i (.int .i64 0) 1 8 Tryz.underlying71 hi hz0 hz1 hz2 rfl (by decide) v ls.length (ls.map fun (n : Nat) => Value.int .i64 (n : Int))
  (h.alloc _) ⟨w.heap.size,0,none⟩ 1 1 [.int .i64 (x : Int)] (by simp) (fun j u hu => by
   match j,hu with
   | 0,hu =>
    simp at hu
    subst hu
    rw [show (⟨w.heap.size,0,none⟩ : Addr).add 0 = ⟨w.heap.size,0,none⟩ from rfl,World.cell?_alloc_mark]
    rfl
   | j + 1,hu => simp at hu) (by
   intro u hu
   simp at hu
   subst hu
   rfl) (by unfold maxLen; omega) (by omega) (by simp; omega)
 refine ⟨v',w',h1,?_,h3⟩
 unfold OwnI
 simpa using h2
theorem wpList_append_int1 {w : World} {ops : Array Oper} {rest : List Oper} {o : Oper} {a : Act} {Q : Exit -> Act -> World -> Prop} (hgd : o.guard = none) (s x : Operand)
  (ho : o.op = .call { callee:=.builtin .append,args:=#[s,x],argTypes:=#[71,71] }) (hx : a.eval x = .slice (some ⟨w.heap.size,0,none⟩) 1 1)
  (B : Nat) (v : Value) (ls : List Nat) (hs : a.eval s = v) (h : OwnI w B v ls) (y : Nat) (hlen : ls.length + 1 <= 1000000) (hbase : B <= w.heap.size)
  (hh : ∀ v' w',OwnI w' B v' (ls ++ [y]) -> (w.alloc (.cells #[.int .i64 (y : Int)] TI64)).grownBy w' v.ownBlock -> wpList Tryz.prog ops Q rest (a.put o.dst v') w') :
  wpList Tryz.prog ops Q (o :: rest) a (w.alloc (.cells #[.int .i64 (y : Int)] TI64)):=by
 refine wpList_plain hgd fun _ hK => ?_
 obtain ⟨v',w',hr,h2,h3⟩:=run_append_int1 B v ls h y o.type hlen hbase
 unfold Oper.wp execOp
 simp only [ho,resolve,invoke,builtin,Sem.run_bind,Sem.run_pure,Result.andThen_ok,List.map_toArray,List.map_cons,List.map_nil,hs,hx,hr]
 exact hK _ _ (hh v' w' h2 h3)
variable {w : World} {L B C s t sn : Nat} {fp : Nat -> Option Nat} {σ : StM}
theorem open_any (h : StIn w L B C s t sn fp σ) :
  Calls Tryz.prog 22 #[.pointer (some ⟨s,0,none⟩)] w fun e w' => (∃ a c n,e = .returned (.slice a n c) /\ n <= 8 /\ (n = 0 ↔ ∀ i,i < 8 -> σ.fds i = none)) /\ Below w.heap.size w w':=by
 have hq : ∀ i,i < 8 -> ∃ q : Option Addr,fdV fp i = .pointer q /\ (σ.fds i = none -> q = none) /\ (σ.fds i ≠ none -> ∃ g,q = some ⟨g,0,none⟩):=fun i hi => by
  refine ⟨_,rfl,fun h1 => ?_,fun h1 => ?_⟩
  ·rw [h.no i hi h1]; rfl
  ·cases hf : σ.fds i with
   | none => exact absurd hf h1
   | some o =>
    obtain ⟨g,hg,_⟩:=h.fd i o hi hf
    exact ⟨g,by rw [hg]; rfl⟩
 have HQ:=qh hq
 obtain ⟨v0,hv0⟩:=qnm (fdV fp 0)
 obtain ⟨v1,hv1⟩:=qnm (fdV fp 1)
 obtain ⟨v2,hv2⟩:=qnm (fdV fp 2)
 obtain ⟨v3,hv3⟩:=qnm (fdV fp 3)
 obtain ⟨v4,hv4⟩:=qnm (fdV fp 4)
 obtain ⟨v5,hv5⟩:=qnm (fdV fp 5)
 obtain ⟨v6,hv6⟩:=qnm (fdV fp 6)
 obtain ⟨v7,hv7⟩:=qnm (fdV fp 7)
 have HIX:=qh (show ∀ k q,k < 8 -> fdV fp k = .pointer q -> ∀ w,(Instr.index 102 (.agg #[v0,v1,v2,v3,v4,v5,v6,v7]) (.int .i64 (k : Int))).run Tryz.prog w = .ok (.pointer q) w from fun k q hk hkq w => by
  refine run_index_fds w _ k q hk ?_
  have hk' : k = 0 ∨ k = 1 ∨ k = 2 ∨ k = 3 ∨ k = 4 ∨ k = 5 ∨ k = 6 ∨ k = 7:=by omega
  rw [<- hkq]
  rcases hk' with rfl | rfl | rfl | rfl | rfl | rfl | rfl | rfl <;> simp [hv0,hv1,hv2,hv3,hv4,hv5,hv6,hv7])
 have hc : ∀ i v,i < 8 -> v = fdV fp i -> w.cell? ⟨s,3 + i,none⟩ = some v:=fun i v hi hv => by rw [hv]; exact h.fdcell i hi
 have c0:=hc 0 v0 (by omega) hv0
 have c1:=hc 1 v1 (by omega) hv1
 have c2:=hc 2 v2 (by omega) hv2
 have c3:=hc 3 v3 (by omega) hv3
 have c4:=hc 4 v4 (by omega) hv4
 have c5:=hc 5 v5 (by omega) hv5
 have c6:=hc 6 v6 (by omega) hv6
 have c7:=hc 7 v7 (by omega) hv7
 simp only [Nat.reduceAdd] at c0 c1 c2 c3 c4 c5 c6 c7
 clear h hq hc hv0 hv1 hv2 hv3 hv4 hv5 hv6 hv7
 go_enter Tryz.func22,Tryz.ntmps22
 go_wp2_with fail
 go_loopw [3,10] (fun out k wr => ∃ (j : Nat) (l : List Nat),j <= 8 /\ k = .int .i64 (j : Int) /\ OwnI wr w.heap.size out l /\ l.length <= j /\ (l = [] ↔ ∀ i,i < j -> σ.fds i = none) /\ Ext w.heap.size w wr) (fun _ k _ => 8 - (intOf k).toNat)
 case atStart => exact ⟨0,[],by omega,rfl,OwnI.nil _ _,by simp,⟨fun _ i hi => by omega,fun _ => rfl⟩,Ext.refl w⟩
 case round =>
  obtain ⟨j,l,hj,rfl,hO,hlj,hl,hE⟩:=hrel
  by_cases hlt : j < 8
  ·obtain ⟨q,hq,hn,hs⟩:=HQ.out j hlt
   have hx:=HIX.out j q hlt hq
   have e1 : (j : Int) < 8:=by omega
   obtain ⟨j2,hj2⟩:=qnm (j + 1)
   have e3 : IntKind.i64.wrap ((j : Int) + 1) = (j2 : Int):=by rw [IntWalk.i64_in _ (by omega)]; omega
   have HX:=qh (aI hl (aI hlj (aI hj2 hE)))
   clear hl hlj hj2 hj hq
   by_cases hf : σ.fds j = none
   ·obtain rfl:=hn hf
    have HFN:=qh hf
    clear hn hs hf hE
    go_wp2_with fail
    go_roundw
    case rel =>
     obtain ⟨hl,hlj,hj2,hE⟩:=HX.out
     refine ⟨j2,l,by omega,rfl,hO,by omega,?_,hE⟩
     rw [hl]
     constructor
     ·intro h i hi
      rcases Nat.lt_or_ge i j with h1 | h1
      ·exact h i h1
      ·obtain rfl : i = j:=by omega
       exact HFN.out
     ·intro h i hi
      exact h i (by omega)
    case measure =>
     obtain ⟨hl,hlj,hj2,hE⟩:=HX.out
     show 8 - (j2 : Int).toNat < 8 - (j : Int).toNat
     omega
   ·obtain ⟨g,rfl⟩:=hs hf
    have HFN:=qh hf
    clear hn hs hf
    go_wp2_with (at_builtin; refine wpList_append_int1 rfl _ _ rfl rfl w.heap.size _ l rfl hO j (by have:=HX.out.2.1; omega) hE.2 ?_; intro v' w' hO' hg')
    go_roundw
    case rel =>
     obtain ⟨hl,hlj,hj2,hE⟩:=HX.out
     refine ⟨j2,l ++ [j],by omega,rfl,hO',by simp; omega,?_,Ext.grown (hE.alloc _) hg' (fun k hk => hO.blk k hk)⟩
     constructor
     ·intro h; simp at h
     ·intro h
      exact absurd (h j (by omega)) HFN.out
    case measure =>
     obtain ⟨hl,hlj,hj2,hE⟩:=HX.out
     show 8 - (j2 : Int).toNat < 8 - (j : Int).toNat
     omega
  ·obtain rfl : j = 8:=by omega
   obtain ⟨a,c,rfl,_,_⟩:=hO.at (n:=l.length) rfl
   have HF:=qh (aI hl (aI hlj hE))
   obtain ⟨n,hn⟩:=qnm l.length
   rw [<- hn]
   have HN:=qh hn
   clear hl hlj hE hO hlt hj hn
   go_wp2_with fail
   go_ret
   obtain ⟨hl,hlj,hE⟩:=HF.out
   exact ⟨⟨a,c,n,rfl,by rw [HN.out]; exact hlj,by rw [HN.out,List.length_eq_zero_iff]; exact hl⟩,hE.1⟩
end
section
open Go.RowKit
def Glob (w : World) : Prop:=∃ m : Int,w.cell? ⟨2,0,none⟩ = some (.int .i64 m)
theorem Glob.lt {w : World} (h : Glob w) : 2 < w.heap.size:=by
 obtain ⟨m,hm⟩:=h
 exact World.block_lt_of_cell? w _ hm
theorem Glob.below {w w' : World} (h : Glob w) (hb : Below w.heap.size w w') : Glob w':=by
 have hl:=h.lt
 obtain ⟨m,hm⟩:=h
 exact ⟨m,(hb.cell (p:=⟨2,0,none⟩) hl).trans hm⟩
def slashes (s : List UInt8) : List (List UInt8):=(Lib.splitB ⟨#[47]⟩ 0 (Lib.countB (strOf s) ⟨#[47]⟩) (strOf s)).map (·.data.toList)
theorem splitB_size (sep : ByteArray) (save : Nat) : ∀ (k : Nat) (s : ByteArray) (x : ByteArray),x ∈ Lib.splitB sep save k s -> x.size <= s.size
 | 0,s,x,h => by simp [Lib.splitB] at h; subst h; exact Nat.le_refl _
 | k + 1,s,x,h => by
  unfold Lib.splitB at h
  split at h
  ·simp at h; subst h; exact Nat.le_refl _
  ·rcases List.mem_cons.1 h with rfl | h
   ·rw [ByteArray.size_extract]; omega
   ·have:=splitB_size sep save k _ x h
    rw [ByteArray.size_extract] at this
    omega
theorem slashes_len (s : List UInt8) : ∀ x ∈ slashes s,x.length <= s.length:=fun x hx => by
 unfold slashes at hx
 obtain ⟨y,hy,rfl⟩:=List.mem_map.1 hx
 have:=splitB_size _ _ _ _ _ hy
 rw [Array.length_toList]
 exact this
def pathSplit (s : List UInt8) : List (List UInt8) × Nat :=
 match s with
 | [] => ([],12)
 | c :: r => if c = 47 then (if r = [] then ([],0) else if fineP (slashes r) ≠ 0 then ([],fineP (slashes r)) else (slashes r,0)) else ([],12)
theorem cutp_any (s p : ByteArray) (w : World) :
  Calls Tryz.prog 183 #[.string s,.string p] w fun e w' => e = .returned (.tuple #[.string ⟨(Lib.trimPrefix s.data.toList p.data.toList).toArray⟩,.bool (Lib.hasPrefix s.data.toList p.data.toList)]) /\ w' = w:=by
 go_enter Tryz.func183,Tryz.ntmps183
 go_wp2
 ·have h2 : (!((s.extract 0 p.size).toList == p.toList)) = true:=by assumption
  have h3 : (decide (p.size <= s.size) && ((s.extract 0 p.size).toList == p.toList)) = false:=by
   have : ((s.extract 0 p.size).toList == p.toList) = false:=by simpa using h2
   rw [this]
   simp
  go_ret2
  refine ⟨?_,rfl⟩
  rw [Lib.trimPrefix_miss s p h3,<- Lib.hasPrefix_raw,h3]
  rfl
 ·have h1 : p.size <= s.size:=by assumption
  have h2 : (!((s.extract 0 p.size).toList == p.toList)) = false:=by assumption
  have h2' : ((s.extract 0 p.size).toList == p.toList) = true:=by simpa using h2
  go_ret2
  refine ⟨?_,rfl⟩
  rw [Lib.trimPrefix_hit s p h1 h2',<- Lib.hasPrefix_raw,h2',decide_eq_true h1]
  rfl
 ·have h1 : ¬ p.size <= s.size:=by assumption
  have h3 : (decide (p.size <= s.size) && ((s.extract 0 p.size).toList == p.toList)) = false:=by simp [h1]
  go_ret2
  refine ⟨?_,rfl⟩
  rw [Lib.trimPrefix_miss s p h3,<- Lib.hasPrefix_raw,h3]
  rfl
theorem cuts_hit (r : List UInt8) (w : World) : Calls Tryz.prog 183 #[.string (strOf (47 :: r)),.string ⟨#[47]⟩] w fun e w' => e = .returned (.tuple #[.string (strOf r),.bool true]) /\ w' = w:=by
 have h:=cutp_any (strOf (47 :: r)) ⟨#[47]⟩ w
 have h1 : Lib.hasPrefix (strOf (47 :: r)).data.toList (⟨#[47]⟩ : ByteArray).data.toList = true:=by simp [strOf,Lib.hasPrefix,List.isPrefixOf]
 have h2 : Lib.trimPrefix (strOf (47 :: r)).data.toList (⟨#[47]⟩ : ByteArray).data.toList = r:=by
  unfold Lib.trimPrefix
  rw [if_pos h1]
  simp [strOf]
 rw [h1,h2] at h
 exact h
theorem cuts_miss (s : List UInt8) (hs : s.head? ≠ some 47) (w : World) : Calls Tryz.prog 183 #[.string (strOf s),.string ⟨#[47]⟩] w fun e w' => e = .returned (.tuple #[.string (strOf s),.bool false]) /\ w' = w:=by
 have h:=cutp_any (strOf s) ⟨#[47]⟩ w
 have h1 : Lib.hasPrefix (strOf s).data.toList (⟨#[47]⟩ : ByteArray).data.toList = false:=by
  cases s with
  | nil => rfl
  | cons c r =>
   have : c ≠ 47:=fun e => hs (by rw [e]; rfl)
   simp [strOf,Lib.hasPrefix,List.isPrefixOf]
   exact fun e => this e.symm
 have h2 : Lib.trimPrefix (strOf s).data.toList (⟨#[47]⟩ : ByteArray).data.toList = s:=by
  unfold Lib.trimPrefix
  rw [if_neg (by rw [h1]; simp)]
  simp [strOf]
 rw [h1,h2] at h
 exact h
def TyS (w : World) (a : Option Addr) : Prop:=∀ p,a = some p -> ∃ C fr,w.heap[p.block]? = some (.cells C TST fr)
theorem TyS.nil (w : World) : TyS w none:=fun _ h => by cases h
theorem TyS.below {w w' : World} {a : Option Addr} (h : TyS w a) (hb : Below w.heap.size w w') : TyS w' a:=fun p hp => by
 obtain ⟨C,fr,h⟩:=h p hp
 exact ⟨C,fr,(hb.block _ (Array.getElem?_eq_some_iff.1 h).1).trans h⟩
theorem strs_any (s : List UInt8) (hs : s.length <= 1000000) (w : World) (hg : Glob w) :
  Calls Tryz.prog 184 #[.string (strOf s),.string ⟨#[47]⟩] w fun e w' => ∃ a n c,e = .returned (.slice a n c) /\ (Ss w' a n c (slashes s) /\ TyS w' a) /\ Below w.heap.size w w':=by
 obtain ⟨m,hm⟩:=hg
 have hsz : (strOf s).size = s.length:=by simp [strOf,ByteArray.size]
 refine (Any.strings_Split Tryz.splitS (by kernel_rfl) (strOf s) ⟨#[47]⟩ m w (by rw [hsz]; omega) hm (by decide)).mono ?_
 rintro e w' ⟨rfl,rfl⟩
 have hle:=Lib.countB_le ⟨#[47]⟩ (by decide) (strOf s).size (strOf s) (Nat.le_refl _)
 have hlen:=Lib.splitB_all ⟨#[47]⟩ (by decide) 0 _ (strOf s) rfl
 have hsl : (slashes s).length = Lib.countB (strOf s) ⟨#[47]⟩ + 1:=by unfold slashes; rw [List.length_map]; exact hlen
 refine ⟨_,_,_,rfl,⟨⟨hsl,Nat.le_refl _,by unfold maxLen; omega,.inr ⟨w.heap.size,0,rfl,by simp,fun i hi => ?_⟩⟩,fun p hp => by injection hp with hp; subst hp; exact ⟨_,_,heap_alloc_new w _⟩⟩,(Below.refl _ w).alloc (Nat.le_refl _) _⟩
 rw [Nat.zero_add,World.cell?_alloc_mark]
 unfold slashes at hi ⊢
 rw [List.length_map] at hi
 have e : ∀ x : ByteArray,strOf x.data.toList = x:=fun ⟨d⟩ => rfl
 generalize Lib.splitB ⟨#[47]⟩ 0 (Lib.countB (strOf s) ⟨#[47]⟩) (strOf s) = Q at *
 rw [List.getElem_map,e]
 simp [hi]
theorem split_any (s : List UInt8) (hs : s.length <= 1000000) (w : World) (hg : Glob w) :
  Calls Tryz.prog 112 #[.string (strOf s)] w fun e w' => (∃ a n c,e = .returned (.tuple #[.slice a n c,.int .i64 ((pathSplit s).2 : Int)]) /\ (Ss w' a n c (pathSplit s).1 /\ TyS w' a) /\ (n = 0 -> a = none /\ c = 0)) /\ Below w.heap.size w w':=by
 by_cases hh : s.head? = some 47
 ·obtain ⟨r,rfl⟩ : ∃ r,s = 47 :: r:=by
   cases s with
   | nil => cases hh
   | cons c r => simp at hh; exact ⟨r,by rw [hh]⟩
  have hr : r.length <= 1000000:=by simp at hs; omega
  have HC:=qh (cuts_hit r w)
  by_cases hr0 : r = []
  ·subst hr0
   have hp : pathSplit [47] = ([],0):=rfl
   rw [hp]
   have hz : ((strOf []).toList == ([] : List UInt8)) = true:=by rw [strOf_toList]; rfl
   go_enter Tryz.func112,Tryz.ntmps112
   go_wp2_with fail
   refine HC.out.mono ?_
   rintro e w1 ⟨rfl,rfl⟩
   go_wp2_with fail
   go_ret2
   exact ⟨⟨_,_,_,rfl,⟨Ss.nil _,TyS.nil _⟩,fun _ => ⟨rfl,rfl⟩⟩,Below.refl _ _⟩
  ·have hz : ((strOf r).toList == ([] : List UInt8)) = false:=by rw [strOf_toList]; simpa using hr0
   have hp : pathSplit (47 :: r) = if fineP (slashes r) ≠ 0 then ([],fineP (slashes r)) else (slashes r,0):=by
    show (if (47 : UInt8) = 47 then (if r = [] then ([],0) else if fineP (slashes r) ≠ 0 then ([],fineP (slashes r)) else (slashes r,0)) else ([],12)) = _
    rw [if_pos rfl,if_neg hr0]
   have HS:=qh (strs_any r hr w hg)
   have HL:=qh (show ∀ x ∈ slashes r,x.length <= 1000000 from fun x hx => Nat.le_trans (slashes_len r x hx) hr)
   have hne : slashes r ≠ []:=by
    intro e
    have hlen:=Lib.splitB_all ⟨#[47]⟩ (by decide) 0 _ (strOf r) rfl
    unfold slashes at e
    rw [List.map_eq_nil_iff] at e
    rw [e] at hlen
    simp at hlen
   have HP:=qh (aI hp hne)
   clear hp hne hh hs hg hr hr0
   go_enter Tryz.func112,Tryz.ntmps112
   go_wp2_with fail
   refine HC.out.mono ?_
   rintro e w1 ⟨rfl,rfl⟩
   go_wp2_with fail
   refine HS.out.mono ?_
   rintro e w2 ⟨a,n,c,rfl,hS,hb⟩
   have HF:=qh (pfine_any a n c (slashes r) w2 hS.1 HL.out)
   have HB:=qh (aI hS hb)
   clear hS hb
   go_wp2_with fail
   refine HF.out.mono ?_
   rintro e w3 ⟨rfl,hb3⟩
   have HB3:=qh (aI (aI (HB.out.1.1.below hb3) (HB.out.1.2.below hb3)) (HB.out.2.trans (hb3.mono HB.out.2.size)))
   clear hb3
   obtain ⟨f,hf⟩:=qnm (fineP (slashes r))
   rw [<- hf]
   have HFF:=qh hf
   clear hf
   by_cases hf0 : f = 0
   ·subst hf0
    go_wp2_with fail
    go_ret2
    rw [HP.out.1,if_neg (by rw [<- HFF.out]; simp)]
    refine ⟨⟨a,n,c,rfl,HB3.out.1,fun hn => ?_⟩,HB3.out.2⟩
    have:=HB3.out.1.1.1
    rw [hn] at this
    exact absurd (List.length_eq_zero_iff.1 this) HP.out.2
   ·have hf1 : ¬ (f : Int) = 0:=by omega
    have HN:=qh hf0
    clear hf0
    go_wp2_with fail
    go_ret2
    rw [HP.out.1,if_pos (by rw [<- HFF.out]; exact HN.out),<- HFF.out]
    exact ⟨⟨_,_,_,rfl,⟨Ss.nil _,TyS.nil _⟩,fun _ => ⟨rfl,rfl⟩⟩,HB3.out.2⟩
 ·have HC:=qh (cuts_miss s hh w)
  have hp : pathSplit s = ([],12):=by
   cases s with
   | nil => rfl
   | cons c r =>
    show (if c = 47 then (if r = [] then ([],0) else if fineP (slashes r) ≠ 0 then ([],fineP (slashes r)) else (slashes r,0)) else ([],12)) = _
    rw [if_neg (fun e => hh (by rw [e]; rfl))]
  rw [hp]
  clear hh hg hp
  go_enter Tryz.func112,Tryz.ntmps112
  go_wp2_with fail
  refine HC.out.mono ?_
  rintro e w1 ⟨rfl,rfl⟩
  go_wp2_with fail
  go_ret2
  exact ⟨⟨_,_,_,rfl,⟨Ss.nil _,TyS.nil _⟩,fun _ => ⟨rfl,rfl⟩⟩,Below.refl _ _⟩
end
end Go.Proofs.YtabdcphioccgnaaGreatDoor
