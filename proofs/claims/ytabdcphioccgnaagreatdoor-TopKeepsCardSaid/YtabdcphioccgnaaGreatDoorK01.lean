/- Base; CrcFns; CrcLaw; TailB; Held; HeldB; Crc; LayOf. -/
import Derived.BigQuiet
import Derived.Deep.DeepFit
import Derived.Deep.Quiet
import Derived.Deep.RegionHeld3
import Derived.Deep.RegionWith
import Derived.Lib.Hide
import Derived.Lib.SlBytesConst
import Derived.StillTailTactics
import Derived.Test.YtabdcphioccgnaaGreatDoorProg
import Derived.WalkKit
set_option maxRecDepth 100000
set_option maxHeartbeats 8000000
namespace Go.Proofs.YtabdcphioccgnaaGreatDoor
section
open Go.RowKit
theorem qh {p : Prop} (h : p) : Hid p := h
theorem aI {a b : Prop} (x : a) (y : b) : a /\ b := ⟨x, y⟩
theorem qnm {α : Sort _} (x : α) : ∃ y, y = x := ⟨x, rfl⟩
theorem qba {w v : World} {o : Obj} (h : v = w.alloc o) : Below w.heap.size w v := by rw [h]; exact (Below.refl _ _).alloc (Nat.le_refl _) _
theorem qz0 {α : Type _} (x : α) (xs : List α) (a : α) : (x :: xs).set 0 a = a :: xs := List.set_cons_zero
theorem qz1 {α : Type _} (x : α) (xs : List α) (n : Nat) (a : α) : (x :: xs).set (n + 1) a = x :: xs.set n a := List.set_cons_succ
theorem ret_int {k : IntKind} {a b : Int} (h : a = b) : Ending.returned (.int k a) = .returned (.int k b):=by rw [h]
theorem ret_bool {a b : Bool} (h : a = b) : Ending.returned (.bool a) = .returned (.bool b):=by rw [h]
theorem bcell {W w1 : World} (hb : Below W.heap.size W w1) : (∀ b o,b < W.heap.size -> w1.cell? ⟨b,o,none⟩ = W.cell? ⟨b,o,none⟩) /\ (∀ b o,b < W.heap.size -> w1.frozen? ⟨b,o,none⟩ = W.frozen? ⟨b,o,none⟩) :=
 ⟨fun b o h => hb.cell (p:=⟨b,o,none⟩) h,fun b o h => hb.frozen (p:=⟨b,o,none⟩) h⟩
def Ext (B : Nat) (a w : World) : Prop:=Below B a w /\ B <= w.heap.size
theorem Ext.refl (w : World) : Ext w.heap.size w w:=⟨Below.refl _ _,Nat.le_refl _⟩
theorem Ext.alloc {B : Nat} {a w : World} (h : Ext B a w) (o : Obj) : Ext B a (w.alloc o):=⟨h.1.alloc h.2 o,by have:=h.2; simp; omega⟩
theorem Ext.step {B : Nat} {a w w' : World} (h : Ext B a w) (hb : Below w.heap.size w w') : Ext B a w':=⟨h.1.trans (hb.mono h.2),Nat.le_trans h.2 hb.size⟩
theorem Ext.drew {B : Nat} {a w : World} (h : Ext B a w) : Ext B a w.drew:=⟨h.1.drew,h.2⟩
theorem Ext.setCell {B : Nat} {a w : World} (h : Ext B a w) {p : Addr} (hp : B <= p.block) (u : Value) : Ext B a (w.setCell p u):=⟨h.1.setCell hp u,by have:=h.2; simpa [World.setCell] using this⟩
noncomputable def World.over (w x : World) : World:=open Classical in if Below w.heap.size w x then x else w
theorem below_over (w x : World) : Below w.heap.size w (World.over w x):=by
 unfold World.over; split
 ·assumption
 ·exact Below.refl _ _
theorem over_of {w x : World} (h : Below w.heap.size w x) : x = World.over w x:=by unfold World.over; rw [if_pos h]
@[simp,go_sem] theorem cell?_over (w x : World) (b o : Nat) (h : b < w.heap.size) : (World.over w x).cell? ⟨b,o,none⟩ = w.cell? ⟨b,o,none⟩:=(below_over w x).cell (p:=⟨b,o,none⟩) h
theorem wp_region_over {P : Program} {id : Nat} {l : List Oper} {Q : Exit -> Act -> World -> Prop} {a : Act} {w : World} (hm : P.follows .mixedOrders = true) (hB : Region.lexB .any l.toArray = true)
  (h : wpQuiet P l.toArray (fun w' => ∃ n,w' = World.over w n) (fun a' => ∀ w',(∃ n,w' = World.over w n) -> Q .normal a' w') l a) : (Code.region id l.toArray true).wp P Q a w :=
 wp_region_quiet (C:=fun w' => ∃ n,w' = World.over w n) hm hB ⟨_,over_of (Below.drew (Below.refl _ _))⟩ (by simpa using h)
theorem over_same {P : Program} {f : FuncId} {args : Array Value} {w : World} {n : World} {v : Value}
  (h : Calls P f args (World.over w n) fun e w' => e = .returned v /\ World.over w n = w') : Calls P f args (World.over w n) fun e w'' => e = .returned v /\ ∃ m,w'' = World.over w m :=
 h.mono fun _ _ ⟨he,hm⟩ => ⟨he,n,hm.symm⟩
def Bs (w : World) (a : Option Addr) (len cap : Nat) (xs : List UInt8) : Prop :=
 xs.length = len /\ len <= cap /\ cap <= maxLen /\ (len = 0 ∨ ∃ b off,a = some ⟨b,off,none⟩ /\ b < w.heap.size /\
  ∀ i (h : i < xs.length),w.cell? ⟨b,off + i,none⟩ = some (.int .u8 (xs[i].toNat : Int)))
theorem Bs.below {w w' : World} {a : Option Addr} {len cap : Nat} {xs : List UInt8} (h : Bs w a len cap xs) (hb : Below w.heap.size w w') : Bs w' a len cap xs:=by
 obtain ⟨h1,h2,h3,h4⟩:=h
 refine ⟨h1,h2,h3,?_⟩
 rcases h4 with h4 | ⟨b,off,h4,h5,h6⟩
 ·exact .inl h4
 ·exact .inr ⟨b,off,h4,Nat.lt_of_lt_of_le h5 hb.size,fun i hi => by rw [hb.cell (p:=⟨b,off + i,none⟩) h5]; exact h6 i hi⟩
theorem Bs.alloc {w : World} {a : Option Addr} {len cap : Nat} {xs : List UInt8} (h : Bs w a len cap xs) (o : Obj) : Bs (w.alloc o) a len cap xs:=h.below ((Below.refl _ _).alloc (Nat.le_refl _) o)
theorem Bs.drew {w : World} {a : Option Addr} {len cap : Nat} {xs : List UInt8} (h : Bs w a len cap xs) : Bs w.drew a len cap xs:=h.below (Below.refl _ _).drew
theorem Bs.nil (w : World) : Bs w none 0 0 []:=⟨rfl,Nat.le_refl _,by simp [maxLen],.inl rfl⟩
theorem Bs.take {w : World} {a : Option Addr} {len cap : Nat} {xs : List UInt8} (h : Bs w a len cap xs) {k : Nat} (hk : k <= len) : Bs w a k cap (xs.take k):=by
 obtain ⟨h1,h2,h3,h4⟩:=h
 refine ⟨by simp; omega,by omega,h3,?_⟩
 rcases h4 with h4 | ⟨b,off,h4,h5,h6⟩
 ·exact .inl (by omega)
 ·exact .inr ⟨b,off,h4,h5,fun i hi => by simp at hi; rw [h6 i (by omega)]; simp⟩
theorem Bs.drop {w : World} {a : Option Addr} {len cap : Nat} {xs : List UInt8} (h : Bs w a len cap xs) {k : Nat} (hk : k <= len) : Bs w (if cap = k then a else a.map (·.add k)) (len - k) (cap - k) (xs.drop k):=by
 obtain ⟨h1,h2,h3,h4⟩:=h
 refine ⟨by simp; omega,by omega,by omega,?_⟩
 rcases h4 with h4 | ⟨b,off,h4,h5,h6⟩
 ·exact .inl (by omega)
 ·by_cases hc : cap = k
  ·exact .inl (by omega)
  ·rw [if_neg hc,h4]
   refine .inr ⟨b,off + k,?_,h5,fun i hi => by simp at hi; rw [Nat.add_assoc,h6 (k + i) (by omega)]; simp⟩
   by_cases hk0 : k = 0 <;> simp [Addr.add,hk0]
def bv (x : UInt8) : Value:=.int .u8 (x.toNat : Int)
theorem Bs.newRow (w : World) (C : Array Value) (e : TypeId) (fr : Nat × Nat) (n cap : Nat) (xs : List UInt8) (hn : xs.length = n) (h : n <= cap) (hcap : cap <= maxLen)
  (hC : C.toList.take n = xs.map bv) : Bs (w.alloc (.cells C e fr)) (some ⟨w.heap.size,0,none⟩) n cap xs:=by
 refine ⟨hn,h,hcap,.inr ⟨_,_,rfl,by simp,fun i hi => ?_⟩⟩
 rw [World.cell?_alloc_mark,Nat.zero_add]
 have h1:=congrArg (·[i]?) hC
 simp only [List.getElem?_take,List.getElem?_map] at h1
 rw [if_pos (by omega)] at h1
 rw [<- Array.getElem?_toList,h1]
 simp [bv,hi]
def byteOf (n : Int) : UInt8:=UInt8.ofNat n.toNat
theorem byteOf_toNat {n : Int} (h : (Lit.int .u8 n).wf = true) : ((byteOf n).toNat : Int) = n:=by
 have hb : 0 <= n /\ n < 256:=by simp [Lit.wf,IntKind.min,IntKind.max,IntKind.bits,IntKind.signed] at h; omega
 unfold byteOf
 rw [UInt8.toNat_ofNat']
 omega
def within (n lo hi : Int) : Int:=lo + n % (hi - lo + 1)
end
section
def crcStep (c : Nat) : Nat:=if c % 2 = 1 then (c / 2) ^^^ 3988292384 else c / 2
def crcBits : Nat -> Nat -> Nat
 | 0,c => c
 | n + 1,c => crcStep (crcBits n c)
def crcByte (c : Nat) (x : UInt8) : Nat:=crcBits 8 (c ^^^ x.toNat)
def crcFold (c : Nat) (xs : List UInt8) : Nat:=xs.foldl crcByte c
def crcMore (c : Nat) (xs : List UInt8) : Nat:=4294967295 - crcFold (4294967295 - c) xs
theorem crcStep_lt {c : Nat} (h : c < 4294967296) : crcStep c < 4294967296:=by
 unfold crcStep; split
 ·exact Nat.xor_lt_two_pow (n:=32) (by omega) (by omega)
 ·omega
theorem crcBits_lt {n c : Nat} (h : c < 4294967296) : crcBits n c < 4294967296:=by
 induction n with
 | zero => exact h
 | succ n ih => exact crcStep_lt ih
theorem crcByte_lt {c : Nat} (x : UInt8) (h : c < 4294967296) : crcByte c x < 4294967296 :=
 crcBits_lt (Nat.xor_lt_two_pow (n:=32) h (by have:=x.toNat_lt; omega))
theorem crcFold_lt {c : Nat} (xs : List UInt8) (h : c < 4294967296) : crcFold c xs < 4294967296:=by
 unfold crcFold
 induction xs generalizing c with
 | nil => exact h
 | cons x xs ih => exact ih (crcByte_lt x h)
theorem crcMore_lt (c : Nat) (xs : List UInt8) : crcMore c xs < 4294967296:=by unfold crcMore; omega
theorem take_snoc {α} (s : List α) (k : Nat) (h : k < s.length) : s.take (k + 1) = s.take k ++ [s[k]]:=by
 rw [List.take_succ_eq_append_getElem h]
theorem crcFold_snoc (c : Nat) (xs : List UInt8) (x : UInt8) : crcFold c (xs ++ [x]) = crcByte (crcFold c xs) x:=by simp [crcFold]
theorem nat_not32 (c : Nat) (h : c < 4294967296) : 4294967295 ^^^ c = 4294967295 - c:=by
 have h1 : (BitVec.allOnes 32 ^^^ BitVec.ofNat 32 c) = ~~~ (BitVec.ofNat 32 c):=by
  rw [BitVec.xor_comm,BitVec.xor_allOnes]
 have h2:=congrArg BitVec.toNat h1
 rw [BitVec.toNat_xor,BitVec.toNat_not,BitVec.toNat_ofNat,BitVec.toNat_allOnes,Nat.mod_eq_of_lt (by omega)] at h2
 simpa using h2
theorem not_u32 (c : Nat) (h : c < 4294967296) : bits .xor .u32 IntKind.u32.max (c : Int) = ((4294967295 - c : Nat) : Int):=by
 have : IntKind.u32.max = ((4294967295 : Nat) : Int):=by decide
 rw [this,u32_xor_nat _ _ (by omega) h,nat_not32 c h]
theorem and1_u32 (c : Nat) (h : c < 4294967296) : bits .and .u32 (c : Int) 1 = ((c % 2 : Nat) : Int):=by
 have:=u32_and_nat c 1 h (by omega)
 rw [Nat.and_one_is_mod] at this
 simpa using this
def turned (xs : List UInt8) (k : Nat) (ts : List UInt8) (m : Nat) : List UInt8 :=
 xs.take k ++ (List.zipWith (· ^^^ ·) ((xs.drop k).take m) (ts.take m) ++ xs.drop (k + m))
end
section
open Go.RowKit
def bare (o : Oper) : Oper:={ dst:=o.dst,op:=o.op,type:=o.type,pos:=o.pos,after:=#[],guard:=o.guard }
def noGuards (l : List Oper) : Bool:=l.all fun o => o.guard.isNone
theorem noGuards_cons {o : Oper} {l : List Oper} (h : noGuards (o :: l) = true) : o.guard = none /\ noGuards l = true:=by
 simp only [noGuards,List.all_cons,Bool.and_eq_true] at h
 exact ⟨by simpa using h.1,h.2⟩
theorem wanted_of {o : Oper} (h : o.guard = none) (f : Nat -> Option Bool) : Region.wanted o f = true:=by simp [Region.wanted,h]
theorem wpStill_bare {P : Program} {w : World} {Q Q' : Act -> Prop} {ops : Array Oper} (hQ : ∀ a,Q' a -> Q a) : ∀ (l : List Oper) (a : Act),noGuards l = true -> wpStill P #[] w Q' (l.map bare) a -> wpStill P ops w Q l a
 | [],a,_,h => hQ a h
 | o :: l,a,hg,h => by
  obtain ⟨h1,h2⟩:=noGuards_cons hg
  have h' : (bare o).still P a w (wpStill P #[] w Q' (l.map bare)):=by
   have : Region.wanted (bare o) (yielded #[] a.tmps) = true:=wanted_of h1 _
   simpa only [List.map_cons,wpStill,this,if_true] using h
  have h2' : o.still P a w (wpStill P #[] w Q' (l.map bare)):=h'
  simp only [wpStill,wanted_of h1,if_true]
  exact Oper.still_mono (fun a ha => wpStill_bare hQ l a h2 ha) h2'
theorem wpList_bare {P : Program} {Q : Exit -> Act -> World -> Prop} {ops : Array Oper} : ∀ (l : List Oper) (a : Act) (w : World),noGuards l = true -> wpList P #[] Q (l.map bare) a w -> wpList P ops Q l a w
 | [],a,w,_,h => h
 | o :: l,a,w,hg,h => by
  obtain ⟨h1,h2⟩:=noGuards_cons hg
  have h' : (bare o).wp P a w (wpList P #[] Q (l.map bare)) Q ∨ ((bare o).asks P a w /\ LetsOut Q):=by
   have : Region.wanted (bare o) (yielded #[] a.tmps) = true:=wanted_of h1 _
   simpa only [List.map_cons,wpList,this,if_true] using h
  simp only [wpList,wanted_of h1,if_true]
  rcases h' with h' | h'
  ·have h3 : o.wp P a w (wpList P #[] Q (l.map bare)) Q:=h'
   exact .inl (Oper.wp_mono (fun a w hw => wpList_bare l a w h2 hw) h3)
  ·exact .inr h'
theorem wp_tailb {P : Program} {id : Nat} {Q : Exit -> Act -> World -> Prop} {a : Act} {w : World} {l : List Oper} (n : Nat) (hm : P.follows .mixedOrders = true) (hB : Region.lexTailB .any l.toArray n = true) (hg : noGuards l = true)
  (h : wpStill P #[] w.drew (fun a' => wpList P #[] Q ((l.drop n).map bare) a' w.drew) ((l.take n).map bare) a) : (Code.region id l.toArray true).wp P Q a w:=by
 have h1 : noGuards (l.take n) = true:=List.all_eq_true.2 fun o ho => List.all_eq_true.1 hg o (List.mem_of_mem_take ho)
 have h2 : noGuards (l.drop n) = true:=List.all_eq_true.2 fun o ho => List.all_eq_true.1 hg o (List.mem_of_mem_drop ho)
 exact wp_region_still_tail n hm hB (wpStill_bare (fun a ha => wpList_bare _ a _ h2 ha) _ _ h1 h)
def HB (w w' : World) : Prop:=Below w.heap.size w w'
theorem HB.refl (w : World) : HB w w:=Below.refl _ _
theorem HB.trans {a b c : World} (h : HB a b) (k : HB b c) : HB a c:=Below.trans h (Below.mono k (Below.size h))
section
variable {P : Program} {md : Region.Mode} {ops : Array Oper} {Q : Exit -> Act -> World -> Prop}
theorem wpAnyH_mono {S S' : World -> Prop} (hS : ∀ w,S' w -> S w) : ∀ (fuel : Nat) (listed : Array Bool) (a : Act) (w : World),wpAnyH P md ops Q S' fuel listed a w -> wpAnyH P md ops Q S fuel listed a w
 | 0,_,_,_,h => h
 | fuel + 1,_,_,_,h => ⟨h.1,fun i hi => wpOp_mono (fun a' w' h' => ⟨hS _ h'.1,wpAnyH_mono hS fuel _ a' w' h'.2⟩) (h.2 i hi)⟩
theorem held_start {id : Nat} {a : Act} {w : World} (hm : P.follows .mixedOrders = true)
  (h : HB w.drew w.drew -> wpAnyH P .any ops Q (HB w.drew) ops.size (Array.replicate ops.size false) a w.drew) : (Code.region id ops true).wp P Q a w :=
 wp_region_held_drew (S:=HB w.drew) hm (HB.refl _) h
theorem held_next {fuel : Nat} {listed : Array Bool} {a : Act} {w w2 : World} (hb : HB w w2) (h : HB w2 w2 -> wpAnyH P md ops Q (HB w2) fuel listed a w2) : wpAnyH P md ops Q (HB w) fuel listed a w2 :=
 wpAnyH_mono (fun _ h' => hb.trans h') fuel listed a w2 (h (HB.refl _))
theorem held_take {S : World -> Prop} {i : Nat} (d : Nat) {oi : Oper} {v : Value} {fuel : Nat} {listed : Array Bool} {l : List Value} {ds : List Deferred} {w : World} (hi : ops[i]? = some oi)
  (hs : Region.noSelect ops = true) (hf : Region.free md ops listed i = true) (hr : (Region.ready md ops listed).contains i = true)
  (hQ : ∀ c a w,Q (.panic c) (a.put oi.dst v) w -> Q (.panic c) a w) (hd : oi.dst = some d) (hS : S w)
  (hy : YieldsIf P ops S oi v { tmps:=l.toArray,defers:=ds })
  (h : wpAnyH P md ops Q S fuel (listed.setIfInBounds i true) { tmps:=(l.set d v).toArray,defers:=ds } w) : wpAnyH P md ops Q S (fuel + 1) listed { tmps:=l.toArray,defers:=ds } w:=by
 refine wpAnyH_take hi hs hf hr hQ hy hS ?_
 rw [hd]
 unfold Act.put
 simp only [List.setIfInBounds_toArray]
 exact h
end
section
variable {P : Program} {md : Region.Mode} {ops : Array Oper} {Q : Exit -> Act -> World -> Prop} {S : World -> Prop}
theorem qth (i d : Nat) {oi : Oper} {v : Value} {fuel : Nat} {listed : Array Bool} {l : List Value} {ds : List Deferred} {w : World}
    (h : wpAnyH P md ops Q S fuel (listed.setIfInBounds i true) { tmps := (l.set d v).toArray, defers := ds } w) (hi : ops[i]? = some oi := by rfl)
    (hs : Region.noSelect ops = true := by kernel_rfl) (hf : Region.free md ops listed i = true := by kernel_rfl) (hr : (Region.ready md ops listed).contains i = true := by kernel_rfl)
    (hQ : ∀ c a w, Q (.panic c) (a.put oi.dst v) w -> Q (.panic c) a w := by exact fun _ _ _ h => h) (hd : oi.dst = some d := by rfl) (hS : S w := by assumption)
    (hy : YieldsIf P ops S oi v { tmps := l.toArray, defers := ds } := by exact Or.inl ⟨by rfl, by intro w hSw; (try dsimp only at hSw); go_simp; (try with_reducible rfl)⟩) : wpAnyH P md ops Q S (fuel + 1) listed { tmps := l.toArray, defers := ds } w :=
  held_take d hi hs hf hr hQ hd hS hy h
end
section
variable {P : Program} {ops : Array Oper} {Q : Exit -> Act -> World -> Prop} {md : Region.Mode} {S : World -> Prop} {bef : Nat -> Bool}
def wpAnyB (P : Program) (md : Region.Mode) (ops : Array Oper) (Q : Exit -> Act -> World -> Prop) (bef : Nat -> Bool) (S : World -> Prop) : Nat -> Array Bool -> Act -> World -> Prop
 | 0,listed,a,w => Region.ready md ops listed = [] /\ Q .normal a w
 | fuel + 1,listed,a,w =>
  (Region.ready md ops listed = [] -> Q .normal a w) /\
  ∀ i ∈ Region.ready md ops listed,wpOp P ops Q i (fun a' w' => (bef i = true -> S w') /\ wpAnyB P md ops Q bef S fuel (listed.setIfInBounds i true) a' w') a w
theorem wpAny_of_B : ∀ (fuel : Nat) (listed : Array Bool) (a : Act) (w : World),wpAnyB P md ops Q bef S fuel listed a w -> wpAny P md ops Q fuel listed a w
 | 0,_,_,_,h => h
 | fuel + 1,_,_,_,h => ⟨h.1,fun i hi => wpOp_mono (fun a' w' h' => wpAny_of_B fuel _ a' w' h'.2) (h.2 i hi)⟩
theorem wpAnyB_first {Sy : World -> Prop} {i : Nat} {oi : Oper} {v : Value} (hi : ops[i]? = some oi) (hsel : ∀ (j : Nat) (o : Oper) cs b,ops[j]? = some o -> o.op ≠ .select cs b)
  (hQ : ∀ c a w,Q (.panic c) (a.put oi.dst v) w -> Q (.panic c) a w) :
  ∀ (fuel : Nat) (listed : Array Bool) (a : Act) (w : World),
   (∀ j oj,ops[j]? = some oj -> j ≠ i -> listed.getD j true = false -> (∀ e ∈ oj.after,Region.binds md e = true -> e.on ≠ i) -> oi.apart ops oj = true) ->
   (((∀ w,Sy w) /\ bef i = false) ∨ ((∀ w,S w -> Sy w) /\ ∀ j oj,ops[j]? = some oj -> listed.getD j true = false -> (∀ e ∈ oj.after,Region.binds md e = true -> e.on ≠ i) -> bef j = true)) ->
   i ∈ Region.ready md ops listed -> YieldsIf P ops Sy oi v a -> Sy w -> (bef i = true -> S w) ->
   wpAnyB P md ops Q bef S fuel (listed.setIfInBounds i true) (a.put oi.dst v) w -> wpAnyB P md ops Q bef S (fuel + 1) listed a w:=by
 intro fuel
 induction fuel with
 | zero =>
  intro listed a w _ _ hr hy hS hb H
  refine ⟨fun h => (by rw [h] at hr; cases hr),fun j hj => ?_⟩
  by_cases hji : j = i
  ·subst hji; exact hy.wpOp hi hS ⟨hb,H⟩
  ·have:=ready_mono hj hji
   rw [H.1] at this
   cases this
 | succ fuel ih =>
  intro listed a w hfree hk hr hy hS hb H
  refine ⟨fun h => (by rw [h] at hr; cases hr),fun j hj => ?_⟩
  by_cases hji : j = i
  ·subst hji; exact hy.wpOp hi hS ⟨hb,H⟩
  ·have h1:=H.2 j (ready_mono hj hji)
   obtain ⟨hjun,oj,hoj,hall⟩:=mem_ready.1 hj
   have hnot : ∀ e ∈ oj.after,Region.binds md e = true -> e.on ≠ i:=fun e he hb heq => by
    have h1:=hall e he hb
    have h0:=(mem_ready.1 hr).1
    rw [heq] at h1
    rcases Nat.lt_or_ge i listed.size with h' | h'
    ·simp [h'] at h0 h1; rw [h0] at h1; cases h1
    ·simp [Array.getElem?_eq_none h'] at h1
   have h2:=wpOp_putIf hoj (hfree j oj hoj hji hjun hnot) (fun cs b => hsel i oi cs b hi) (fun cs b => hsel j oj cs b hoj) hQ hy h1
   have hset : ∀ k,(listed.setIfInBounds j true).getD k true = false -> listed.getD k true = false:=fun k hun => by
    by_cases hjk : j = k
    ·subst hjk; exact hjun
    ·rwa [getD_set_ne true hjk] at hun
   have hfree' : ∀ k ok,ops[k]? = some ok -> k ≠ i -> (listed.setIfInBounds j true).getD k true = false ->
     (∀ e ∈ ok.after,Region.binds md e = true -> e.on ≠ i) -> oi.apart ops ok = true:=fun k ok hk hki hun hno => hfree k ok hk hki (hset k hun) hno
   have hk' : ((∀ w,Sy w) /\ bef i = false) ∨ ((∀ w,S w -> Sy w) /\ ∀ k ok,ops[k]? = some ok -> (listed.setIfInBounds j true).getD k true = false -> (∀ e ∈ ok.after,Region.binds md e = true -> e.on ≠ i) -> bef k = true) :=
    hk.imp id (fun h => ⟨h.1,fun k ok hk hun hno => h.2 k ok hk (hset k hun) hno⟩)
   refine wpOp_mono (fun a' w' h3 => ⟨h3.2.1,ih (listed.setIfInBounds j true) a' w' hfree' hk' (ready_mono hr (Ne.symm hji)) h3.1 ?_ (fun hbi => ?_) ?_⟩) h2
   ·rcases hk with ⟨hk,_⟩ | ⟨hk1,hk2⟩
    ·exact hk w'
    ·exact hk1 w' (h3.2.1 (hk2 j oj hoj hjun hnot))
   ·rcases hk with ⟨_,hk⟩ | ⟨hk1,hk2⟩
    ·rw [hk] at hbi; cases hbi
    ·exact h3.2.1 (hk2 j oj hoj hjun hnot)
   ·rw [Array.setIfInBounds_comm _ _ hji]
    exact h3.2.2
def befB (md : Region.Mode) (ops : Array Oper) (bef : Nat -> Bool) (listed : Array Bool) (i : Nat) : Bool :=
 (List.range ops.size).all fun j => match ops[j]? with
  | none => true
  | some oj => listed.getD j true || oj.after.any (fun e => Region.binds md e && e.on == i) || bef j
theorem befB_spec {listed : Array Bool} {i : Nat} (h : befB md ops bef listed i = true) : ∀ j oj,ops[j]? = some oj -> listed.getD j true = false -> (∀ e ∈ oj.after,Region.binds md e = true -> e.on ≠ i) -> bef j = true:=by
 intro j oj hj hun hno
 have hlt : j < ops.size:=(Array.getElem?_eq_some_iff.1 hj).1
 have h1:=List.all_eq_true.1 h j (List.mem_range.2 hlt)
 simp only [hj,hun,Bool.false_or,Bool.or_eq_true] at h1
 rcases h1 with h1 | h1
 ·obtain ⟨e,he,hee⟩:=Array.any_eq_true'.1 h1
  rw [Bool.and_eq_true,beq_iff_eq] at hee
  exact absurd hee.2 (hno e he hee.1)
 ·exact h1
theorem heldB_take {i : Nat} (d : Nat) {oi : Oper} {v : Value} {fuel : Nat} {listed : Array Bool} {l : List Value} {ds : List Deferred} {w : World} (hi : ops[i]? = some oi)
  (hs : Region.noSelect ops = true) (hf : Region.free md ops listed i = true) (hr : (Region.ready md ops listed).contains i = true) (hb : befB md ops bef listed i = true)
  (hQ : ∀ c a w,Q (.panic c) (a.put oi.dst v) w -> Q (.panic c) a w) (hd : oi.dst = some d) (hS : S w)
  (hy : YieldsIf P ops S oi v { tmps:=l.toArray,defers:=ds })
  (h : wpAnyB P md ops Q bef S fuel (listed.setIfInBounds i true) { tmps:=(l.set d v).toArray,defers:=ds } w) : wpAnyB P md ops Q bef S (fuel + 1) listed { tmps:=l.toArray,defers:=ds } w:=by
 refine wpAnyB_first (Sy:=S) hi (Region.noSelect_spec hs) hQ fuel listed _ w (Region.free_spec hi hf) (.inr ⟨fun _ h => h,befB_spec hb⟩) (by simpa using hr) hy hS (fun _ => hS) ?_
 rw [hd]
 unfold Act.put
 simp only [List.setIfInBounds_toArray]
 exact h
theorem heldB_free {i : Nat} (d : Nat) {oi : Oper} {v : Value} {fuel : Nat} {listed : Array Bool} {l : List Value} {ds : List Deferred} {w : World} (hi : ops[i]? = some oi)
  (hs : Region.noSelect ops = true) (hf : Region.free md ops listed i = true) (hr : (Region.ready md ops listed).contains i = true) (hb : bef i = false)
  (hQ : ∀ c a w,Q (.panic c) (a.put oi.dst v) w -> Q (.panic c) a w) (hd : oi.dst = some d)
  (hy : YieldsIf P ops (fun _ => True) oi v { tmps:=l.toArray,defers:=ds })
  (h : wpAnyB P md ops Q bef S fuel (listed.setIfInBounds i true) { tmps:=(l.set d v).toArray,defers:=ds } w) : wpAnyB P md ops Q bef S (fuel + 1) listed { tmps:=l.toArray,defers:=ds } w:=by
 refine wpAnyB_first (Sy:=fun _ => True) hi (Region.noSelect_spec hs) hQ fuel listed _ w (Region.free_spec hi hf) (.inl ⟨fun _ => trivial,hb⟩) (by simpa using hr) hy trivial (fun h => by rw [hb] at h; cases h) ?_
 rw [hd]
 unfold Act.put
 simp only [List.setIfInBounds_toArray]
 exact h
theorem heldB_one {fuel : Nat} {listed : Array Bool} {a : Act} {w : World} (i : Nat) {o : Oper} (hr : Region.ready md ops listed = [i]) (ho : ops[i]? = some o)
  (h : ∀ K' : Act -> World -> Prop,Shut (∀ a w,(bef i = true -> S w) -> wpAnyB P md ops Q bef S fuel (listed.setIfInBounds i true) a w -> K' a w) -> if Region.wanted o (yielded ops a.tmps) = true then Oper.wp P o a w K' Q else K' (a.put o.dst undef) w) :
  wpAnyB P md ops Q bef S (fuel + 1) listed a w:=by
 refine ⟨fun h0 => (by rw [hr] at h0; cases h0),fun j hj => ?_⟩
 rw [hr] at hj
 obtain rfl:=List.mem_singleton.1 hj
 exact wpOp_step ho (fun K' hK => h K' (fun a w hS hW => hK a w ⟨hS,hW⟩))
theorem heldB_done {listed : Array Bool} {a : Act} {w : World} (hr : Region.ready md ops listed = []) (h : Q .normal a w) (fuel : Nat) : wpAnyB P md ops Q bef S fuel listed a w:=by
 cases fuel with
 | zero => exact ⟨hr,h⟩
 | succ n =>
  refine ⟨fun _ => h,fun i hi => ?_⟩
  rw [hr] at hi
  cases hi
theorem heldB_start {id : Nat} {a : Act} {w : World} (bef : Nat -> Bool) (S : World -> Prop) (hm : P.follows .mixedOrders = true) (hS : S w.drew)
  (h : S w.drew -> wpAnyB P .any ops Q bef S ops.size (Array.replicate ops.size false) a w.drew) : (Code.region id ops true).wp P Q a w :=
 wp_region_any hm (wpAny_of_B _ _ _ _ (h hS))
end
section
variable {P : Program} {ops : Array Oper} {Q : Exit -> Act -> World -> Prop} {md : Region.Mode} {S : World -> Prop} {bef : Nat -> Bool}
theorem qtk (i d : Nat) {oi : Oper} {v : Value} {fuel : Nat} {listed : Array Bool} {l : List Value} {ds : List Deferred} {w : World}
    (h : wpAnyB P md ops Q bef S fuel (listed.setIfInBounds i true) { tmps := (l.set d v).toArray, defers := ds } w) (hi : ops[i]? = some oi := by rfl)
    (hs : Region.noSelect ops = true := by kernel_rfl) (hf : Region.free md ops listed i = true := by kernel_rfl) (hr : (Region.ready md ops listed).contains i = true := by kernel_rfl) (hb : befB md ops bef listed i = true := by kernel_rfl)
    (hQ : ∀ c a w, Q (.panic c) (a.put oi.dst v) w -> Q (.panic c) a w := by exact fun _ _ _ h => h) (hd : oi.dst = some d := by rfl) (hS : S w := by assumption)
    (hy : YieldsIf P ops S oi v { tmps := l.toArray, defers := ds } := by exact Or.inl ⟨by rfl, by intro w hSw; (try dsimp only at hSw); go_simp; (try with_reducible rfl)⟩) : wpAnyB P md ops Q bef S (fuel + 1) listed { tmps := l.toArray, defers := ds } w :=
  heldB_take d hi hs hf hr hb hQ hd hS hy h
theorem qfr (i d : Nat) {oi : Oper} {v : Value} {fuel : Nat} {listed : Array Bool} {l : List Value} {ds : List Deferred} {w : World}
    (h : wpAnyB P md ops Q bef S fuel (listed.setIfInBounds i true) { tmps := (l.set d v).toArray, defers := ds } w) (hi : ops[i]? = some oi := by rfl)
    (hs : Region.noSelect ops = true := by kernel_rfl) (hf : Region.free md ops listed i = true := by kernel_rfl) (hr : (Region.ready md ops listed).contains i = true := by kernel_rfl) (hb : bef i = false := by kernel_rfl)
    (hQ : ∀ c a w, Q (.panic c) (a.put oi.dst v) w -> Q (.panic c) a w := by exact fun _ _ _ h => h) (hd : oi.dst = some d := by rfl)
    (hy : YieldsIf P ops (fun _ => True) oi v { tmps := l.toArray, defers := ds } := by exact Or.inl ⟨by rfl, by intro w hSw; (try dsimp only at hSw); go_simp; (try with_reducible rfl)⟩) : wpAnyB P md ops Q bef S (fuel + 1) listed { tmps := l.toArray, defers := ds } w :=
  heldB_free d hi hs hf hr hb hQ hd hy h
theorem qone {fuel : Nat} {listed : Array Bool} {a : Act} {w : World} (i : Nat) {o : Oper}
    (h : ∀ K' : Act -> World -> Prop, Shut (∀ a w, (bef i = true -> S w) -> wpAnyB P md ops Q bef S fuel (listed.setIfInBounds i true) a w -> K' a w) -> if Region.wanted o (yielded ops a.tmps) = true then Oper.wp P o a w K' Q else K' (a.put o.dst undef) w)
    (hr : Region.ready md ops listed = [i] := by kernel_rfl) (ho : ops[i]? = some o := by rfl) : wpAnyB P md ops Q bef S (fuel + 1) listed a w := heldB_one i hr ho h
theorem qdon {listed : Array Bool} {a : Act} {w : World} {fuel : Nat} (h : Q .normal a w) (hr : Region.ready md ops listed = [] := by kernel_rfl) : wpAnyB P md ops Q bef S fuel listed a w := heldB_done hr h fuel
end
theorem more_row (c : Nat) (b off cap : Nat) (xs : List UInt8) (w : World) (hc : c < 4294967296) (h1 : xs.length <= cap) (h2 : cap <= maxLen)
  (hcell : ∀ i (h : i < xs.length),w.cell? ⟨b,off + i,none⟩ = some (.int .u8 (xs[i].toNat : Int))) :
  Calls Tryz.prog 168 #[.int .u32 (c : Int),.slice (some ⟨b,off,none⟩) xs.length cap] w fun e w' => e = .returned (.int .u32 (crcMore c xs : Nat)) /\ w = w':=by
 unfold maxLen at h2
 obtain ⟨d,hd⟩:=qnm (4294967295 - c)
 have hn:=not_u32 c hc
 rw [<- hd] at hn
 have hdl : d < 4294967296:=by omega
 have HD:=qh hd; clear hd
 go_enter Tryz.func168,Tryz.ntmps168
 go_wp2
 go_loop [0,12] (fun t i => ∃ k : Nat,k <= xs.length /\ i = .int .i64 k /\ t = .int .u32 (crcFold d (xs.take k) : Nat)) (fun _ i => xs.length - (intOf i).toNat)
 case atStart => exact ⟨0,Nat.zero_le _,rfl,by simp [crcFold]⟩
 case round =>
  obtain ⟨k,hk,rfl,rfl⟩:=hrel
  have hf:=crcFold_lt (xs.take k) hdl
  by_cases hlt : k < xs.length
  ·have hcx:=hcell k hlt
   have hb:=(xs[k]).toNat_lt
   have HT:=qh (take_snoc xs k hlt)
   obtain ⟨f,hff⟩:=qnm (crcFold d (xs.take k))
   rw [<- hff] at hf ⊢
   have hxo:=u32_xor_nat f (xs[k].toNat) hf (by omega)
   obtain ⟨g,hg⟩:=qnm (f ^^^ xs[k].toNat)
   have hgl : g < 4294967296:=by rw [hg]; exact Nat.xor_lt_two_pow (n:=32) hf (by omega)
   rw [<- hg] at hxo
   have HF:=qh hff
   have HG:=qh hg
   clear hff hg
   go_wp2
   go_loop [0,20] (fun t i => ∃ j : Nat,j <= 8 /\ i = .int .i64 j /\ t = .int .u32 (crcBits j g : Nat)) (fun _ i => 8 - (intOf i).toNat)
   case atStart => exact ⟨0,by omega,rfl,rfl⟩
   case round =>
    obtain ⟨j,hj,rfl,rfl⟩:=hrel
    have hel:=crcBits_lt (n:=j) hgl
    obtain ⟨e,he⟩:=qnm (crcBits j g)
    rw [<- he] at hel ⊢
    have HE:=qh he; clear he
    by_cases hj8 : j < 8
    ·have ha:=and1_u32 e hel
     by_cases ho : e % 2 = 1
     ·have hy:=u32_xor_nat (e / 2) 3988292384 (by omega) (by omega)
      have hy' : bits .xor .u32 ((e : Int) / 2) 3988292384 = ((crcStep e : Nat) : Int):=by
       rw [crcStep,if_pos ho]; simpa using hy
      clear hy
      go_wp2
      go_round
      case rel => exact ⟨j + 1,by omega,by go_num,by rw [HE.out]; rfl⟩
      case measure => simp [intOf]; omega
     ·have hy' : (e : Int) / 2 = ((crcStep e : Nat) : Int):=by
       rw [crcStep,if_neg ho]; simp
      have HY:=qh hy'; clear hy'
      go_wp2
      go_round
      case rel => exact ⟨j + 1,by omega,by go_num,by rw [HY.out,HE.out]; rfl⟩
      case measure => simp [intOf]; omega
    ·go_wp2
     go_round
     case rel => exact ⟨k + 1,by omega,by go_num,by
      rw [HE.out,HT.out,crcFold_snoc,<- HF.out,crcByte,<- HG.out]
      have : j = 8:=by omega
      rw [this]⟩
     case measure => simp [intOf]; omega
  ·have hr:=not_u32 _ hf
   go_wp2
   go_ret
   exact ⟨ret_int (by rw [crcMore,<- HD.out,List.take_of_length_le (by omega)]),rfl⟩
theorem more_none (c : Nat) (a : Option Addr) (cap : Nat) (w : World) (hc : c < 4294967296) :
  Calls Tryz.prog 168 #[.int .u32 (c : Int),.slice a 0 cap] w fun e w' => e = .returned (.int .u32 (crcMore c [] : Nat)) /\ w = w':=by
 obtain ⟨d,hd⟩:=qnm (4294967295 - c)
 have hn:=not_u32 c hc
 rw [<- hd] at hn
 have hdl : d < 4294967296:=by omega
 have hr:=not_u32 d hdl
 have HD:=qh hd; clear hd
 go_enter Tryz.func168,Tryz.ntmps168
 go_wp2
 go_loop [0,12] (fun t i => i = .int .i64 0 /\ t = .int .u32 d) (fun _ _ => 0)
 case atStart => exact ⟨rfl,rfl⟩
 case round =>
  obtain ⟨rfl,rfl⟩:=hrel
  go_wp2
  go_ret
  exact ⟨ret_int (by rw [crcMore,<- HD.out]; rfl),rfl⟩
theorem more_any (c : Nat) (a : Option Addr) (len cap : Nat) (xs : List UInt8) (w : World) (hc : c < 4294967296) (h : Bs w a len cap xs) :
  Calls Tryz.prog 168 #[.int .u32 (c : Int),.slice a len cap] w fun e w' => e = .returned (.int .u32 (crcMore c xs : Nat)) /\ w = w':=by
 obtain ⟨h1,h2,h3,h4⟩:=h
 rcases h4 with rfl | ⟨b,off,rfl,h5,h6⟩
 ·obtain rfl:=List.length_eq_zero_iff.1 h1
  exact more_none c a cap w hc
 ·subst h1
  exact more_row c b off cap xs w hc h2 h3 h6
theorem sum_any (a : Option Addr) (len cap : Nat) (xs : List UInt8) (w : World) (h : Bs w a len cap xs) :
  Calls Tryz.prog 93 #[.slice a len cap] w fun e w' => e = .returned (.int .u32 (crcMore 0 xs : Nat)) /\ w = w':=by
 go_enter Tryz.func93,Tryz.ntmps93
 go_wp2_with fail
 refine (more_any 0 a len cap xs w (by omega) h).mono ?_
 rintro e w' ⟨rfl,rfl⟩
 go_wp2_with fail
 go_ret
 exact ⟨rfl,rfl⟩
def seg (n : Int) : Int:=(n - 1 - 2 * (n / 4)) / 8
theorem seg_bd (n : Int) (h1 : 64 <= n) (h2 : n <= 4096) : 3 <= seg n /\ seg n <= 4096:=by unfold seg; omega
def ofV (n : Int) : Value:=if n < 64 ∨ 4096 < n then .tuple #[.agg #[.int .i64 0,.int .i64 0,.int .i64 0],.int .i64 1]
 else .tuple #[.agg #[.int .i64 n,.int .i64 (n / 4),.int .i64 (seg n)],.int .i64 0]
theorem of_any (n : Int) (w : World) :
  Calls Tryz.prog 31 #[.int .i64 n] w fun e w' => e = .returned (ofV n) /\ Below w.heap.size w w':=by
 by_cases h1 : n < 64
 ·go_enter Tryz.func31,Tryz.ntmps31
  go_wp2
  exact bodyPost_ret (v:=.tuple #[.agg #[.int .i64 0,.int .i64 0,.int .i64 0],.int .i64 1]) (by simp [results,Tryz.results31,go_sem]) rfl ⟨by simp [ofV,h1],(Below.refl _ _).alloc (Nat.le_refl _) _⟩
 by_cases h2 : 4096 < n
 ·go_enter Tryz.func31,Tryz.ntmps31
  go_wp2
  exact bodyPost_ret (v:=.tuple #[.agg #[.int .i64 0,.int .i64 0,.int .i64 0],.int .i64 1]) (by simp [results,Tryz.results31,go_sem]) rfl ⟨by simp [ofV,h2],(Below.refl _ _).alloc (Nat.le_refl _) _⟩
 ·go_enter Tryz.func31,Tryz.ntmps31
  go_wp2
  exact bodyPost_ret (v:=.tuple #[.agg #[.int .i64 n,.int .i64 (n / 4),.int .i64 (seg n)],.int .i64 0]) (by simp [results,Tryz.results31,go_sem,seg]) rfl ⟨by simp [ofV,h1,h2],(Below.refl _ _).alloc (Nat.le_refl _) _⟩
theorem of_bad (n : Int) (w : World) (h : n < 64 ∨ 4096 < n) :
  Calls Tryz.prog 31 #[.int .i64 n] w fun e w' => e = .returned (.tuple #[.agg #[.int .i64 0,.int .i64 0,.int .i64 0],.int .i64 1]) /\ Below w.heap.size w w' :=
 (of_any n w).mono fun _ _ ⟨h1,h2⟩ => ⟨by rw [h1,ofV,if_pos h],h2⟩
theorem of_ok (n : Int) (w : World) (h1 : 64 <= n) (h2 : n <= 4096) :
  Calls Tryz.prog 31 #[.int .i64 n] w fun e w' => e = .returned (.tuple #[.agg #[.int .i64 n,.int .i64 (n / 4),.int .i64 (seg n)],.int .i64 0]) /\ Below w.heap.size w w' :=
 (of_any n w).mono fun _ _ ⟨h3,h4⟩ => ⟨by rw [h3,ofV,if_neg (by omega)],h4⟩
end
end Go.Proofs.YtabdcphioccgnaaGreatDoor
