/- Wput; Writer; CodecLaw; CodecUse; Record; RecordEnc; RecordNo; RecordDec. -/
import Derived.Deep.AppendLies
import Derived.Test.YtabdcphioccgnaaGreatDoorK06
set_option maxRecDepth 100000
set_option maxHeartbeats 8000000
namespace Go.Proofs.YtabdcphioccgnaaGreatDoor
section
open Go.RowKit
def Wr (w : World) (B p : Nat) (g : Option Nat) (xs : List UInt8) : Prop :=
 B <= p /\ ∃ v,w.heap[p]? = some (.cells #[v] 226 (0,0)) /\ Own w B v xs /\ v.ownBlock = g /\ g ≠ some p
theorem Wr.lt {w : World} {B p : Nat} {g : Option Nat} {xs : List UInt8} (h : Wr w B p g xs) : p < w.heap.size:=by
 obtain ⟨_,v,h1,_⟩:=h
 exact (Array.getElem?_eq_some_iff.1 h1).1
theorem Wr.base {w : World} {B p : Nat} {g : Option Nat} {xs : List UInt8} (h : Wr w B p g xs) : B <= p:=h.1
theorem Wr.row_lt {w : World} {B p g : Nat} {xs : List UInt8} (h : Wr w B p (some g) xs) : g < w.heap.size /\ B <= g:=by
 obtain ⟨_,v,_,h2,h3,_⟩:=h
 rcases h2.parts with ⟨rfl,_⟩ | ⟨g',cap,rfl,h4,h5⟩
 ·simp [Value.ownBlock] at h3
 ·simp [Value.ownBlock] at h3; subst h3; exact ⟨h5.lt,h4⟩
def WS (p : Nat) (g : Option Nat) (k : Nat) : Prop:=k = p ∨ g = some k
theorem Wr.chg {w w' : World} {B p : Nat} {g : Option Nat} {xs : List UInt8} {S : Nat -> Prop} (h : Wr w B p g xs) (hc : Chg S w w') (hs : ∀ k,WS p g k -> ¬ S k) : Wr w' B p g xs:=by
 have hlt:=h.lt
 obtain ⟨h0,v,h1,h2,h3,h4⟩:=h
 exact ⟨h0,v,(hc.block p hlt (hs p (.inl rfl))).trans h1,hc.own h2 (fun k hk => hs k (.inr (h3 ▸ hk))),h3,h4⟩
theorem Wr.below {w w' : World} {B p : Nat} {g : Option Nat} {xs : List UInt8} (h : Wr w B p g xs) (hb : Below w.heap.size w w') : Wr w' B p g xs :=
 h.chg (Chg.of_below hb (fun _ => False)) (fun _ _ => id)
theorem Wr.belowOf {w w' : World} {B p : Nat} {g : Option Nat} {xs : List UInt8} (h : Wr w B p g xs) (hc : Chg (WS p g) w w') : Below B w w':=by
 refine hc.below (by have:=h.lt; have:=h.base; omega) (fun k _ hs => ?_)
 rcases hs with rfl | rfl
 ·exact h.base
 ·exact h.row_lt.2
theorem Ext.to {B : Nat} {a w w' : World} (h : Ext B a w) (hb : Below B w w') : Ext B a w':=⟨h.1.trans hb,Nat.le_trans h.2 hb.size⟩
def be (n : Nat) : Nat -> List UInt8
 | 0 => []
 | k + 1 => UInt8.ofNat (n / 256 ^ k) :: be n k
theorem be_length (n k : Nat) : (be n k).length = k:=by induction k with
 | zero => rfl
 | succ k ih => simp [be,ih]
theorem lt_alloc {w : World} {p : Nat} {o : Obj} (h : p < w.heap.size) : p < (w.alloc o).heap.size:=by simp; omega
def WPost (w : World) (B p : Nat) (g : Option Nat) (xs : List UInt8) (w' : World) : Prop :=
 ∃ g',Wr w' B p g' xs /\ Chg (WS p g) w w' /\ (g' = g ∨ ∃ k,g' = some k /\ w.heap.size <= k)
theorem WPost.trans {w w1 w2 : World} {B p : Nat} {g g1 : Option Nat} {xs : List UInt8} (hc : Chg (WS p g) w w1) (hg : g1 = g ∨ ∃ k,g1 = some k /\ w.heap.size <= k) (h : WPost w1 B p g1 xs w2) : WPost w B p g xs w2:=by
 obtain ⟨g2,h1,h2,h3⟩:=h
 refine ⟨g2,h1,hc.trans h2 (fun i hi hs => ?_),?_⟩
 ·rcases hs with rfl | hs
  ·exact .inl rfl
  ·rcases hg with rfl | ⟨k,rfl,hk⟩
   ·exact .inr hs
   ·cases hs; omega
 ·rcases h3 with rfl | ⟨k,rfl,hk⟩
  ·exact hg
  ·exact .inr ⟨k,rfl,Nat.le_trans hc.size hk⟩
theorem WPost.store {wr W w1 : World} {B p : Nat} {g1 : Option Nat} {ys zs : List UInt8} {v V : Value} (h : Wr wr B p g1 ys) (hv : wr.heap[p]? = some (.cells #[v] 226 (0,0))) (hvg : v.ownBlock = g1)
  (hA : Below wr.heap.size wr W) (h1 : Own w1 B V zs) (h2 : W.grownBy w1 v.ownBlock) (h3 : V.ownBlock = v.ownBlock ∨ V.ownBlock = some W.heap.size) : WPost wr B p g1 zs (w1.setCell ⟨p,0,none⟩ V):=by
 have hlt:=h.lt
 obtain ⟨hB,v0,hv0,_,hvg0,hgp⟩:=h
 have hpW : p < W.heap.size:=Nat.lt_of_lt_of_le hlt hA.size
 have hne : V.ownBlock ≠ some p:=by
  rcases h3 with h3 | h3
  ·rw [h3,hvg]; exact hgp
  ·rw [h3]; intro e; cases e; omega
 have hp1 : w1.heap[p]? = some (.cells #[v] 226 (0,0)):=(h2.block p hpW (fun e => hgp (hvg ▸ e.symm))).trans ((hA.block p hlt).trans hv)
 have hset : Chg (fun k => k = p) w1 (w1.setCell ⟨p,0,none⟩ V):=Chg.setCell (S:=fun k => k = p) (p:=⟨p,0,none⟩) (Chg.refl _ _) (fun _ => rfl) V
 refine ⟨V.ownBlock,⟨hB,V,?_,hset.own h1 (fun k hk e => hne (by rw [hk,e])),rfl,hne⟩,?_,?_⟩
 ·exact one_setCell hp1
 ·refine ((Chg.of_below hA _).grown h2 (fun k _ hk => .inr (hvg ▸ hk))).setCell (fun _ => .inl rfl) V
 ·rcases h3 with h3 | h3
  ·exact .inl (h3.trans hvg)
  ·exact .inr ⟨_,h3,hA.size⟩
theorem put_any (B p n size : Nat) (g : Option Nat) (xs : List UInt8) (w : World) (h : Wr w B p g xs) (hs : size <= 8) (hl : xs.length + 8 <= big) :
  Calls Tryz.prog 138 #[.pointer (some ⟨p,0,none⟩),.int .u64 (n : Int),.int .i64 (size : Int)] w fun e w' => e = .returned (.tuple #[]) /\ WPost w B p g (xs ++ be n size) w':=by
 go_enter Tryz.func138,Tryz.ntmps138
 go_wp2_with fail
 go_loopw [6] (fun i wr => ∃ k : Nat,∃ done : List UInt8,k <= size /\ i = .int .i64 ((k : Int) - 1) /\ done ++ be n k = be n size /\ WPost w B p g (xs ++ done) wr) (fun i _ => (intOf i + 1).toNat)
 case atStart => exact ⟨size,[],by omega,rfl,rfl,g,by simpa using h,Chg.refl _ _,.inl rfl⟩
 case round =>
  obtain ⟨k,done,hk,rfl,hd,g1,hW,hC,hG⟩:=hrel
  by_cases hk0 : 0 < k
  ·obtain ⟨j,rfl⟩ : ∃ j,k = j + 1:=⟨k - 1,by omega⟩
   rw [show ((j + 1 : Nat) : Int) - 1 = (j : Int) by omega]
   have hWl:=hW.lt
   obtain ⟨hB,v,hv,hown,hvg,hgp⟩:=hW
   have hc:=cell_of_one hv
   have hz:=free_of_one hv
   have HC:=qh (show (#[.int .u8 (IntKind.u8.wrap ((n : Int) / 2 ^ (8 * (j : Int)).toNat))] : Array Value).toList.take 1 = [UInt8.ofNat (n / 256 ^ j)].map bv by
    have e1 : (8 * (j : Int)).toNat = 8 * j:=by omega
    have e2 : ((n : Int) / 2 ^ (8 * j)) = ((n / 256 ^ j : Nat) : Int):=by rw [show (256 : Nat) = 2 ^ 8 by decide,<- Nat.pow_mul]; simp
    rw [e1,e2]
    simp [bv,IntKind.wrap_u8'])
   have hw8 : IntKind.i64.wrap (8 * (j : Int)) = 8 * (j : Int):=IntWalk.i64_in _ (by omega)
   have hdl : done.length + (j + 1) = size:=by have:=congrArg List.length hd; simpa [be_length] using this
   have hL : (xs ++ done).length + 1 <= big:=by simp; omega
   have hne : some p ≠ v.ownBlock:=fun e => hgp (hvg ▸ e.symm)
   go_wp2_with fail
   have HLn:=qh (show (xs ++ done ++ [UInt8.ofNat (n / 256 ^ j)]).length = xs.length + (done.length + 1) by simp)
   have h1m : 1 <= maxLen:=by simp [maxLen]
   go_region_law (refine step_append_at rfl _ _ rfl B v (xs ++ done) rfl ?_ (some ⟨wr.heap.size,0,none⟩) 1 1 [UInt8.ofNat (n / 256 ^ j)] rfl ?_ hL ?_ (fun v' w1 h1 h2 h3 => ?_); (exact (hown.below (Below.refl _ _).drew).alloc _); (exact Bs.drew (Bs.newRow _ _ _ _ _ _ _ rfl (Nat.le_refl _) h1m HC.out)); (simp; omega); obtain ⟨a',cap',rfl,_⟩:=h1.bs; have hc1:=(World.grownBy.cell_far h2 ⟨p,0,none⟩ (lt_alloc hWl) hne); have hz1:=(World.grownBy.frozen_far h2 ⟨p,0,none⟩ (lt_alloc hWl) hne))
   all_goals
    rw [HLn.out] at h1 h3
    have hP:=WPost.trans hC hG (WPost.store ⟨hB,v,hv,hown,hvg,hgp⟩ hv hvg (((Below.refl _ _).alloc (Nat.le_refl _) _).drew) h1 h2 h3)
    go_wp2_with fail
    go_roundw
    case rel => exact ⟨j,done ++ [UInt8.ofNat (n / 256 ^ j)],by omega,rfl,by rw [<- hd]; simp [be],by simpa using hP⟩
    case measure => simp [intOf]
  ·obtain rfl : k = 0:=by omega
   have hd' : done = be n size:=by simpa [be] using hd
   subst hd'
   go_wp2_with fail
   go_end0
   exact ⟨rfl,g1,hW,hC,hG⟩
def fb (b : Bool) : UInt8:=if b then 1 else 0
theorem wbyte_any (B p n : Nat) (g : Option Nat) (xs : List UInt8) (w : World) (h : Wr w B p g xs) (hn : n <= 9223372036854775807) (hl : xs.length + 8 <= big) :
  Calls Tryz.prog 64 #[.pointer (some ⟨p,0,none⟩),.int .i64 (n : Int)] w fun e w' => e = .returned (.tuple #[]) /\ WPost w B p g (xs ++ [UInt8.ofNat n]) w':=by
 go_enter Tryz.func64,Tryz.ntmps64
 go_wp2_with fail
 refine (put_any B p n 1 g xs _ h (by omega) hl).mono ?_
 rintro e w' ⟨rfl,hp⟩
 go_wp2_with fail
 go_end0
 exact ⟨rfl,by simpa [be] using hp⟩
theorem wshort_any (B p n : Nat) (g : Option Nat) (xs : List UInt8) (w : World) (h : Wr w B p g xs) (hn : n <= 9223372036854775807) (hl : xs.length + 8 <= big) :
  Calls Tryz.prog 66 #[.pointer (some ⟨p,0,none⟩),.int .i64 (n : Int)] w fun e w' => e = .returned (.tuple #[]) /\ WPost w B p g (xs ++ be n 2) w':=by
 go_enter Tryz.func66,Tryz.ntmps66
 go_wp2_with fail
 refine (put_any B p n 2 g xs _ h (by omega) hl).mono ?_
 rintro e w' ⟨rfl,hp⟩
 go_wp2_with fail
 go_end0
 exact ⟨rfl,hp⟩
theorem wlong_any (B p n : Nat) (g : Option Nat) (xs : List UInt8) (w : World) (h : Wr w B p g xs) (hl : xs.length + 8 <= big) :
  Calls Tryz.prog 67 #[.pointer (some ⟨p,0,none⟩),.int .u64 (n : Int)] w fun e w' => e = .returned (.tuple #[]) /\ WPost w B p g (xs ++ be n 8) w':=by
 go_enter Tryz.func67,Tryz.ntmps67
 go_wp2_with fail
 refine (put_any B p n 8 g xs _ h (by omega) hl).mono ?_
 rintro e w' ⟨rfl,hp⟩
 go_wp2_with fail
 go_end0
 exact ⟨rfl,hp⟩
theorem wflag_any (B p : Nat) (b : Bool) (g : Option Nat) (xs : List UInt8) (w : World) (h : Wr w B p g xs) (hl : xs.length + 8 <= big) :
  Calls Tryz.prog 224 #[.pointer (some ⟨p,0,none⟩),.bool b] w fun e w' => e = .returned (.tuple #[]) /\ WPost w B p g (xs ++ [fb b]) w':=by
 cases b
 ·go_enter Tryz.func224,Tryz.ntmps224
  go_wp2_with fail
  refine (wbyte_any B p 0 g xs _ h (by omega) hl).mono ?_
  rintro e w' ⟨rfl,hp⟩
  go_wp2_with fail
  go_end0
  exact ⟨rfl,hp⟩
 ·go_enter Tryz.func224,Tryz.ntmps224
  go_wp2_with fail
  refine (wbyte_any B p 1 g xs _ h (by omega) hl).mono ?_
  rintro e w' ⟨rfl,hp⟩
  go_wp2_with fail
  refine bodyPost_ret (results_none rfl _ _ _) rfl ?_
  exact ⟨rfl,hp⟩
theorem wraw_any (B p : Nat) (g : Option Nat) (xs : List UInt8) (a : Option Addr) (len cap : Nat) (ys : List UInt8) (w : World) (h : Wr w B p g xs) (hy : Bs w a len cap ys) (hl : xs.length + len <= big) :
  Calls Tryz.prog 92 #[.pointer (some ⟨p,0,none⟩),.slice a len cap] w fun e w' => e = .returned (.tuple #[]) /\ WPost w B p g (xs ++ ys) w':=by
 have hWl:=h.lt
 have hW:=h
 obtain ⟨hB,v,hv,hown,rfl,hgp⟩:=h
 have hc:=cell_of_one hv
 have hz:=free_of_one hv
 go_enter Tryz.func92,Tryz.ntmps92
 go_wp2_with (at_builtin; refine wpList_append_at rfl _ _ rfl B v xs rfl hown a len cap ys rfl hy hl (by omega) ?_)
 intro v' w1 h1 h2 h3
 have hc1:=(World.grownBy.cell_far h2 ⟨p,0,none⟩ hWl (Ne.symm hgp))
 have hz1:=(World.grownBy.frozen_far h2 ⟨p,0,none⟩ hWl (Ne.symm hgp))
 have hP:=WPost.store hW hv rfl (Below.refl _ _) h1 h2 h3
 obtain ⟨a',cap',rfl,_⟩:=h1.bs
 rw [List.length_append] at hP
 go_wp2_with fail
 go_end0
 exact ⟨rfl,hP⟩
def lenBytes (ys : List UInt8) : List UInt8:=be (min ys.length 65535) 2 ++ ys.take 65535
theorem Chg.bs0 {S : Nat -> Prop} {w w' : World} (h : Chg S w w') {a : Option Addr} {len cap : Nat} {xs : List UInt8} (hb : Bs w a len cap xs) (hs : 0 < len -> ∀ ad,a = some ad -> ¬ S ad.block) : Bs w' a len cap xs:=by
 rcases Nat.eq_zero_or_pos len with h0 | h0
 ·subst h0; exact ⟨hb.1,hb.2.1,hb.2.2.1,.inl rfl⟩
 ·exact h.bs hb (hs h0)
theorem Wr.apart {w wr : World} {p q : Nat} {g : Option Nat} {xs ys : List UInt8} {a : Option Addr} {len cap : Nat} (h : Wr wr p q g xs) (hB : Bs w a len cap ys) (hw : w.heap.size <= p) :
  0 < len -> ∀ ad,a = some ad -> ¬ WS q g ad.block:=by
 intro h0 ad had hk
 rcases hB.2.2.2 with h1 | ⟨b,off,h1,h2,_⟩
 ·omega
 ·rw [had] at h1; cases h1
  rcases hk with hk | hk
  ·have:=h.base; simp only at hk; omega
  ·subst hk; have:=h.row_lt.2; simp only at this; omega
theorem wbytes_any (B p : Nat) (g : Option Nat) (xs : List UInt8) (a : Option Addr) (len cap : Nat) (ys : List UInt8) (w : World) (h : Wr w B p g xs) (hy : Bs w a len cap ys) (hya : 0 < len -> ∀ ad,a = some ad -> ¬ WS p g ad.block) (hl : xs.length + 65545 <= big) :
  Calls Tryz.prog 65 #[.pointer (some ⟨p,0,none⟩),.slice a len cap] w fun e w' => e = .returned (.tuple #[]) /\ WPost w B p g (xs ++ lenBytes ys) w':=by
 have hcap:=hy.2.1
 by_cases hlt : 65535 < len
 ·have hy1:=hy.take (k:=65535) (by omega)
  have HB:=qh (show lenBytes ys = be 65535 2 ++ ys.take 65535 by rw [lenBytes,Nat.min_eq_right (by have:=hy.1; omega)])
  go_enter Tryz.func65,Tryz.ntmps65
  go_wp2_with fail
  refine (wshort_any B p 65535 g xs _ h (by omega) (by omega)).mono ?_
  rintro e w1 ⟨rfl,g1,h1,h2,h3⟩
  go_wp2_with fail
  refine (wraw_any B p g1 _ a 65535 cap _ _ h1 (h2.bs hy1 (hya (by omega))) (by simp [be_length]; omega)).mono ?_
  rintro e w2 ⟨rfl,h4⟩
  go_wp2_with fail
  go_end0
  exact ⟨rfl,by rw [HB.out,<- List.append_assoc]; exact WPost.trans h2 h3 h4⟩
 ·have hyl:=hy.1
  have HB:=qh (show lenBytes ys = be len 2 ++ ys by rw [lenBytes,Nat.min_eq_left (by omega),hyl,List.take_of_length_le (by omega)])
  clear hyl
  go_enter Tryz.func65,Tryz.ntmps65
  go_wp2_with fail
  refine (wshort_any B p len g xs _ h (by omega) (by omega)).mono ?_
  rintro e w1 ⟨rfl,g1,h1,h2,h3⟩
  go_wp2_with fail
  refine (wraw_any B p g1 _ a len cap _ _ h1 (h2.bs0 hy hya) (by simp [be_length]; omega)).mono ?_
  rintro e w2 ⟨rfl,h4⟩
  go_wp2_with fail
  go_end0
  exact ⟨rfl,by rw [HB.out,<- List.append_assoc]; exact WPost.trans h2 h3 h4⟩
theorem wdone_any (B p : Nat) (g : Option Nat) (xs : List UInt8) (w : World) (h : Wr w B p g xs) (hl : xs.length <= big) :
  Calls Tryz.prog 68 #[.pointer (some ⟨p,0,none⟩)] w fun e w' => ∃ v,e = .returned v /\ Own w' w.heap.size v xs /\ Below w.heap.size w w':=by
 obtain ⟨hB,v,hv,hown,rfl,hgp⟩:=h
 have hc:=cell_of_one hv
 obtain ⟨a,cap,rfl,hb⟩:=hown.bs
 go_enter Tryz.func68,Tryz.ntmps68
 go_wp2_with fail
 refine (clone_any a _ cap xs _ hb hl).mono ?_
 rintro e w' ⟨v,rfl,ho,hbl⟩
 go_wp2_with fail
 go_ret
 exact ⟨_,rfl,ho,hbl⟩
theorem wnew_any (w : World) :
  Calls Tryz.prog 63 #[] w fun e w' => e = .returned (.pointer (some ⟨w.heap.size,0,none⟩)) /\ Wr w' w.heap.size w.heap.size none [] /\ Below w.heap.size w w':=by
 go_enter Tryz.func63,Tryz.ntmps63
 go_wp2_with fail
 go_ret
 exact ⟨rfl,⟨Nat.le_refl _,.slice none 0 0,heap_alloc_new w _,Own.nil _ _,rfl,by simp⟩,(Below.refl _ _).alloc (Nat.le_refl _) _⟩
theorem num_cons (y : UInt8) (ys : List UInt8) : num (y :: ys) = y.toNat * 256 ^ ys.length + num ys:=by
 have : ∀ (n : Nat) (ys : List UInt8),ys.foldl (fun n c => n * 256 + c.toNat) n = n * 256 ^ ys.length + ys.foldl (fun n c => n * 256 + c.toNat) 0:=by
  intro n ys
  induction ys generalizing n with
  | nil => simp
  | cons z zs ih =>
   rw [List.foldl_cons,ih,List.foldl_cons,ih (0 * 256 + z.toNat),List.length_cons,Nat.pow_succ]
   rw [show 0 * 256 + z.toNat = z.toNat by omega,Nat.add_mul,Nat.mul_assoc,Nat.mul_comm 256]
   omega
 rw [num,List.foldl_cons,this]
 simp [num]
theorem num_be (n k : Nat) : num (be n k) = n % 256 ^ k:=by
 induction k with
 | zero => simp [be,num,Nat.mod_one]
 | succ k ih =>
  have h : n % 256 ^ (k + 1) = n % 256 ^ k + 256 ^ k * (n / 256 ^ k % 256):=by rw [Nat.pow_succ,Nat.mod_mul]
  rw [be,num_cons,ih,be_length,UInt8.toNat_ofNat',h,show (2 : Nat) ^ 8 = 256 from rfl,Nat.mul_comm,Nat.add_comm]
theorem rdRaw_app (xs ys : List UInt8) (n : Int) (h : n = xs.length) : rdRaw (xs ++ ys,0) n = (xs,(ys,0)):=by
 subst h
 unfold rdRaw
 simp only
 rw [if_neg (by simp),if_neg (by simp; omega)]
 by_cases h0 : ((xs.length : Nat) : Int) < 1
 ·rw [if_pos h0]
  obtain rfl : xs = []:=by apply List.eq_nil_of_length_eq_zero; omega
  rfl
 ·rw [if_neg h0]; simp
theorem rdByte_be (n : Nat) (ys : List UInt8) : rdByte (be n 1 ++ ys,0) = (n % 256,(ys,0)):=by
 unfold rdByte; rw [rdRaw_app _ _ _ (by rw [be_length]; rfl),num_be]
theorem rdShort_be (n : Nat) (ys : List UInt8) : rdShort (be n 2 ++ ys,0) = (n % 65536,(ys,0)):=by
 unfold rdShort; rw [rdRaw_app _ _ _ (by rw [be_length]; rfl),num_be]
theorem rdLong_be (n : Nat) (ys : List UInt8) (h : n < 18446744073709551616) : rdLong (be n 8 ++ ys,0) = (n,(ys,0)):=by
 unfold rdLong; rw [rdRaw_app _ _ _ (by rw [be_length]; rfl),num_be,Nat.mod_eq_of_lt (by omega)]
theorem rdRaw_one (y : UInt8) (ys : List UInt8) : rdRaw (y :: ys,0) 1 = ([y],(ys,0)):=rdRaw_app [y] ys 1 rfl
theorem rdFlag_ok (b : Bool) (ys : List UInt8) : rdFlag (fb b :: ys,0) = (b,(ys,0)):=by
 unfold rdFlag rdByte
 rw [rdRaw_one]
 cases b <;> rfl
theorem rdBytes_app (xs ys : List UInt8) (h : xs.length <= 65535) : rdBytes (be xs.length 2 ++ xs ++ ys,0) = (xs,(ys,0)):=by
 unfold rdBytes
 rw [List.append_assoc,rdShort_be,Nat.mod_eq_of_lt (by omega)]
 exact rdRaw_app _ _ _ rfl
theorem Ext.next {p q : Nat} {rb : Option Nat} {w wr w' : World} {s : List UInt8 × Nat} (hE : Ext p w wr) (hP : RPost wr p q rb s w') : Ext p w w' /\ Rd w' p q rb s.1 s.2 :=
 ⟨hE.to (hP.2.below hE.2 (fun _ _ hk => by subst hk; exact hP.1.1)),hP.1⟩
end
section
open Go.RowKit
theorem size_alloc (w : World) (o : Obj) : w.heap.size < (w.alloc o).heap.size:=by simp
theorem cell_new (w : World) (cs : Array Value) (t : TypeId) (i : Nat) : (w.alloc (.cells cs t)).cell? ⟨w.heap.size,i,none⟩ = cs[i]?:=by
 simp only [World.cell?,heap_alloc_new w]; rfl
theorem cell_new_below {w w1 : World} {cs : Array Value} {t : TypeId} (hb : Below (w.alloc (.cells cs t)).heap.size (w.alloc (.cells cs t)) w1) (i : Nat) : w1.cell? ⟨w.heap.size,i,none⟩ = cs[i]? :=
 (hb.cell (p:=⟨w.heap.size,i,none⟩) (size_alloc _ _)).trans (cell_new w cs t i)
theorem frozen_new (w : World) (cs : Array Value) (t : TypeId) (i : Nat) : (w.alloc (.cells cs t)).frozen? ⟨w.heap.size,i,none⟩ = false:=by
 simp only [World.frozen?,heap_alloc_new w]; simp
theorem Ext.frz {w W : World} {p b o : Nat} {v : Bool} (h : Ext p w W) (hb : b < p) (hc : w.frozen? ⟨b,o,none⟩ = v) : W.frozen? ⟨b,o,none⟩ = v:=(h.1.frozen (p:=⟨b,o,none⟩) hb).trans hc
theorem Ext.cel {w W : World} {p b o : Nat} {v : Option Value} (h : Ext p w W) (hb : b < p) (hc : w.cell? ⟨b,o,none⟩ = v) : W.cell? ⟨b,o,none⟩ = v:=(h.1.cell (p:=⟨b,o,none⟩) hb).trans hc
def WI (w : World) (p q : Nat) (W : World) (L : List UInt8) : Prop:=Ext p w W /\ ∃ g,Wr W p q g L
def RI (w : World) (p q : Nat) (rb : Option Nat) (W : World) (L : List UInt8) : Prop:=Ext p w W /\ Rd W p q rb L 0 /\ L.length <= big
theorem WI.cell {w W : World} {p q : Nat} {L : List UInt8} (h : WI w p q W L) {b o : Nat} {v : Value} (hb : b < p) (hc : w.cell? ⟨b,o,none⟩ = some v) : W.cell? ⟨b,o,none⟩ = some v :=
 (h.1.1.cell (p:=⟨b,o,none⟩) hb).trans hc
theorem Ext.bs {w W : World} {p : Nat} (h : Ext p w W) (hp : w.heap.size = p) {a : Option Addr} {len cap : Nat} {ys : List UInt8} (hB : Bs w a len cap ys) : Bs W a len cap ys:=by
 subst hp; exact hB.below h.1
theorem WI.drew {w W : World} {p q : Nat} {L : List UInt8} (h : WI w p q W L) : WI w p q W.drew L :=
 ⟨h.1.drew,let ⟨g,hg⟩:=h.2; ⟨g,hg.below (Below.refl _ _).drew⟩⟩
theorem WI.post {w W w' : World} {p q : Nat} {g : Option Nat} {L L' : List UInt8} (h : Ext p w W) (hW : Wr W p q g L) (hP : WPost W p q g L' w') : WI w p q w' L':=by
 obtain ⟨g2,h1,h2,h3⟩:=hP
 exact ⟨h.to (hW.belowOf h2),g2,h1⟩
variable {w W : World} {p q : Nat} {rb : Option Nat} {L : List UInt8}
theorem wbyte_ok (n : Nat) (h : WI w p q W L) (hn : n <= 9223372036854775807) (hl : L.length + 8 <= big) :
  Calls Tryz.prog 64 #[.pointer (some ⟨q,0,none⟩),.int .i64 (n : Int)] W fun e w' => e = .returned (.tuple #[]) /\ WI w p q w' (L ++ be n 1):=by
 obtain ⟨hE,g,hg⟩:=h
 have e1 : be n 1 = [UInt8.ofNat n]:=by simp [be]
 rw [e1]
 exact (wbyte_any p q n g L W hg hn hl).mono fun e w' ⟨h1,h2⟩ => ⟨h1,WI.post hE hg h2⟩
theorem wshort_ok (n : Nat) (h : WI w p q W L) (hn : n <= 9223372036854775807) (hl : L.length + 8 <= big) :
  Calls Tryz.prog 66 #[.pointer (some ⟨q,0,none⟩),.int .i64 (n : Int)] W fun e w' => e = .returned (.tuple #[]) /\ WI w p q w' (L ++ be n 2):=by
 obtain ⟨hE,g,hg⟩:=h
 exact (wshort_any p q n g L W hg hn hl).mono fun e w' ⟨h1,h2⟩ => ⟨h1,WI.post hE hg h2⟩
theorem wlong_ok (n : Nat) (h : WI w p q W L) (hl : L.length + 8 <= big) :
  Calls Tryz.prog 67 #[.pointer (some ⟨q,0,none⟩),.int .u64 (n : Int)] W fun e w' => e = .returned (.tuple #[]) /\ WI w p q w' (L ++ be n 8):=by
 obtain ⟨hE,g,hg⟩:=h
 exact (wlong_any p q n g L W hg hl).mono fun e w' ⟨h1,h2⟩ => ⟨h1,WI.post hE hg h2⟩
theorem wflag_ok (b : Bool) (h : WI w p q W L) (hl : L.length + 8 <= big) :
  Calls Tryz.prog 224 #[.pointer (some ⟨q,0,none⟩),.bool b] W fun e w' => e = .returned (.tuple #[]) /\ WI w p q w' (L ++ [fb b]):=by
 obtain ⟨hE,g,hg⟩:=h
 exact (wflag_any p q b g L W hg hl).mono fun e w' ⟨h1,h2⟩ => ⟨h1,WI.post hE hg h2⟩
theorem wbytes_ok {a : Option Addr} {len cap : Nat} {ys : List UInt8} (h : WI w p q W L) (hp : w.heap.size = p) (hy : Bs w a len cap ys) (hl : L.length + 65545 <= big) :
  Calls Tryz.prog 65 #[.pointer (some ⟨q,0,none⟩),.slice a len cap] W fun e w' => e = .returned (.tuple #[]) /\ WI w p q w' (L ++ lenBytes ys):=by
 obtain ⟨hE,g,hg⟩:=h
 exact (wbytes_any p q g L a len cap ys W hg (hE.bs hp hy) (hg.apart hy (by omega)) hl).mono fun e w' ⟨h1,h2⟩ => ⟨h1,WI.post hE hg h2⟩
theorem rpost_ok {w' : World} {s : List UInt8 × Nat} {L' : List UInt8} (h : RI w p q rb W L) (hP : RPost W p q rb s w') (hs : s = (L',0)) (hl : L'.length <= L.length) : RI w p q rb w' L':=by
 subst hs
 have:=h.1.next hP
 exact ⟨this.1,this.2,Nat.le_trans hl h.2.2⟩
theorem rbyte_ok (n : Nat) (h : RI w p q rb W (be n 1 ++ L)) (hn : n < 256) :
  Calls Tryz.prog 210 #[.pointer (some ⟨q,0,none⟩)] W fun e w' => e = .returned (.int .i64 (n : Int)) /\ RI w p q rb w' L:=by
 refine (rbyte_any p q rb (be n 1 ++ L,0) W h.2.1 h.2.2).mono ?_
 rw [rdByte_be,Nat.mod_eq_of_lt hn]
 exact fun e w' ⟨h1,h2⟩ => ⟨h1,rpost_ok h h2 rfl (by simp)⟩
theorem rshort_ok (n : Nat) (h : RI w p q rb W (be n 2 ++ L)) (hn : n < 65536) :
  Calls Tryz.prog 145 #[.pointer (some ⟨q,0,none⟩)] W fun e w' => e = .returned (.int .i64 (n : Int)) /\ RI w p q rb w' L:=by
 refine (rshort_any p q rb (be n 2 ++ L,0) W h.2.1 h.2.2).mono ?_
 rw [rdShort_be,Nat.mod_eq_of_lt hn]
 exact fun e w' ⟨h1,h2⟩ => ⟨h1,rpost_ok h h2 rfl (by simp)⟩
theorem rlong_ok (n : Nat) (h : RI w p q rb W (be n 8 ++ L)) (hn : n < 18446744073709551616) :
  Calls Tryz.prog 146 #[.pointer (some ⟨q,0,none⟩)] W fun e w' => e = .returned (.int .u64 (n : Int)) /\ RI w p q rb w' L:=by
 refine (rlong_any p q rb (be n 8 ++ L,0) W h.2.1 h.2.2).mono ?_
 rw [rdLong_be _ _ hn]
 exact fun e w' ⟨h1,h2⟩ => ⟨h1,rpost_ok h h2 rfl (by simp)⟩
theorem WI.below {w W W' : World} {p q : Nat} {L : List UInt8} (h : WI w p q W L) (hb : Below W.heap.size W W') : WI w p q W' L :=
 ⟨h.1.step hb,let ⟨g,hg⟩:=h.2; ⟨g,hg.below hb⟩⟩
theorem wraw_ok {w W : World} {p q : Nat} {L : List UInt8} {a : Option Addr} {len cap : Nat} {ys : List UInt8} (h : WI w p q W L) (hy : Bs W a len cap ys) (hl : L.length + len <= big) :
  Calls Tryz.prog 92 #[.pointer (some ⟨q,0,none⟩),.slice a len cap] W fun e w' => e = .returned (.tuple #[]) /\ WI w p q w' (L ++ ys):=by
 obtain ⟨hE,g,hg⟩:=h
 exact (wraw_any p q g L a len cap ys W hg hy hl).mono fun e w' ⟨h1,h2⟩ => ⟨h1,WI.post hE hg h2⟩
theorem wdone_ok {w W : World} {p q : Nat} {L : List UInt8} (h : WI w p q W L) (hl : L.length <= big) :
  Calls Tryz.prog 68 #[.pointer (some ⟨q,0,none⟩)] W fun e w' => ∃ a cap,e = .returned (.slice a L.length cap) /\ Own w' W.heap.size (.slice a L.length cap) L /\ Bs w' a L.length cap L /\ WI w p q w' L:=by
 obtain ⟨hE,g,hg⟩:=h
 refine (wdone_any p q g L W hg hl).mono fun e w' ⟨v,h1,h2,h3⟩ => ?_
 obtain ⟨a,cap,rfl,hB⟩:=h2.bs
 exact ⟨a,cap,h1,h2,hB,hE.step h3,g,hg.below h3⟩
end
section
open Go.RowKit
def RecOk (kind : Int) (seq len : Nat) : Prop:=seq <= 1099511627776 /\ len <= 900 /\ (kind = 1 ∨ (kind = 2 /\ len = 0))
instance (k : Int) (s l : Nat) : Decidable (RecOk k s l):=by unfold RecOk; infer_instance
theorem recright_any (kind : Int) (seq : Nat) (a : Option Addr) (len cap : Nat) (w : World) :
  Calls Tryz.prog 69 #[.agg #[.int .i64 kind,.int .u64 (seq : Int),.slice a len cap]] w fun e w' => e = .returned (.bool (decide (RecOk kind seq len))) /\ Below w.heap.size w w':=by
 generalize hok : decide (RecOk kind seq len) = ok
 have HO:=qh hok
 clear hok
 go_enter Tryz.func69,Tryz.ntmps69
 go_wp2
 all_goals go_ret
 all_goals refine ⟨ret_bool ?_,((Ext.refl w).alloc _).1⟩
 all_goals rw [<- HO.out,Bool.eq_iff_iff]
 all_goals rw [decide_eq_true_iff (p:=RecOk _ _ _)]
 all_goals simp only [RecOk,Bool.false_eq_true,false_iff]
 all_goals (first | omega | (simp_all; done) | (simp_all; omega) | go_goals)
theorem recsum_any (a : Option Addr) (len cap : Nat) (xs : List UInt8) (w : World) (h : Bs w a len cap xs) :
  Calls Tryz.prog 237 #[.slice a len cap] w fun e w' => ∃ v,e = .returned v /\ Own w' w.heap.size v (be (crcMore 0 xs) 4) /\ Below w.heap.size w w':=by
 have hcl:=crcMore_lt 0 xs
 have HC:=qh (sum_any a len cap xs w h)
 generalize crcMore 0 xs = c at *
 clear h
 have hb : be c 4 = [UInt8.ofNat (c / 16777216),UInt8.ofNat (c / 65536),UInt8.ofNat (c / 256),UInt8.ofNat c]:=by simp [be]
 rw [hb]
 clear hb
 go_enter Tryz.func237,Tryz.ntmps237
 go_wp2_with fail
 refine HC.out.mono ?_
 rintro e w1 ⟨rfl,rfl⟩
 go_wp2_with fail
 go_ret
 refine ⟨_,rfl,Own.of_row (Row.made w _ 4 4 _ rfl rfl (by omega) (by simp [maxLen]) ?_) (Nat.le_refl _),((Ext.refl w).alloc _).1⟩
 simp [bv,UInt8.toNat_ofNat']
 omega
def recHead (kind seq : Nat) (body : List UInt8) : List UInt8:=be kind 1 ++ (be seq 8 ++ lenBytes body)
def recBytes (kind seq : Nat) (body : List UInt8) : List UInt8:=recHead kind seq body ++ be (crcMore 0 (recHead kind seq body)) 4
theorem recenc_ok (kind seq : Nat) (a : Option Addr) (len cap : Nat) (ys : List UInt8) (w : World) (h : Bs w a len cap ys) (hok : RecOk (kind : Int) seq len) :
  Calls Tryz.prog 197 #[.agg #[.int .i64 (kind : Int),.int .u64 (seq : Int),.slice a len cap]] w fun e w' => ∃ v,e = .returned (.tuple #[v,.int .i64 0]) /\ Own w' w.heap.size v (recBytes kind seq ys) /\ Below w.heap.size w w':=by
 have hl9 : len <= 900:=hok.2.1
 have hk : kind <= 2:=by have:=hok.2.2; omega
 have HR:=qh (recright_any (kind : Int) seq a len cap (w.alloc (.cells #[.int .i64 (kind : Int),.int .u64 (seq : Int),.slice a len cap] 69)))
 rw [decide_eq_true hok] at HR
 clear hok
 go_enter Tryz.func197,Tryz.ntmps197
 go_wp2_with fail
 refine HR.out.mono ?_
 rintro e w1 ⟨rfl,hb⟩
 have hE1:=((Ext.refl w).alloc (.cells #[.int .i64 (kind : Int),.int .u64 (seq : Int),.slice a len cap] 69)).step hb
 have hlt : w.heap.size < w1.heap.size:=Nat.lt_of_lt_of_le (size_alloc _ _) hb.size
 have c0 : w1.cell? ⟨w.heap.size,0,none⟩ = some (.int .i64 (kind : Int)):=cell_new_below hb 0
 have c1 : w1.cell? ⟨w.heap.size,1,none⟩ = some (.int .u64 (seq : Int)):=cell_new_below hb 1
 have c2 : w1.cell? ⟨w.heap.size,2,none⟩ = some (.slice a len cap):=cell_new_below hb 2
 have hB1:=(h.alloc (.cells #[.int .i64 (kind : Int),.int .u64 (seq : Int),.slice a len cap] 69)).below hb
 clear hb h HR
 go_wp2_with fail
 refine (wnew_any w1).mono ?_
 rintro e w2 ⟨rfl,hW2,hb2⟩
 obtain ⟨p,hp⟩:=qnm w1.heap.size
 rw [<- hp] at hW2 hlt ⊢
 have HP:=qh hp
 have hI2 : WI w1 p p w2 []:=⟨by rw [hp]; exact (Ext.refl w1).step hb2,none,hW2⟩
 clear hW2 hb2 hp
 have d0:=hI2.cell hlt c0
 go_wp2_with fail
 refine (wbyte_ok kind hI2 (by omega) (by unfold big; decide)).mono ?_
 rintro e w3 ⟨rfl,hI3⟩
 have d1:=hI3.cell hlt c1
 clear d0 hI2
 go_wp2_with fail
 refine (wlong_ok seq hI3 (by simp [be_length]; unfold big; decide)).mono ?_
 rintro e w4 ⟨rfl,hI4⟩
 have d2:=hI4.cell hlt c2
 clear d1 hI3
 go_wp2_with fail
 refine (wbytes_ok hI4 HP.out.symm hB1 (by simp [be_length]; unfold big; decide)).mono ?_
 rintro e w5 ⟨rfl,hI5⟩
 have e1 : [] ++ be kind 1 ++ be seq 8 ++ lenBytes ys = recHead kind seq ys:=by simp [recHead]
 rw [e1] at hI5
 clear d2 hI4 e1
 have hXl : (recHead kind seq ys).length <= 2000:=by
  have:=hB1.1
  simp only [recHead,List.length_append,be_length,lenBytes,List.length_take]; omega
 have HX:=qh (show recBytes kind seq ys = recHead kind seq ys ++ be (crcMore 0 (recHead kind seq ys)) 4 from rfl)
 generalize recHead kind seq ys = X at *
 go_wp2_with fail
 refine (wdone_ok hI5 (by unfold big; omega)).mono ?_
 rintro e w6 ⟨a6,c6,rfl,_,hB6,hI6⟩
 clear hI5
 go_wp2_with fail
 refine (recsum_any _ _ _ _ _ hB6).mono ?_
 rintro e w7 ⟨v7,rfl,ho7,hb7⟩
 obtain ⟨a7,c7,rfl,hB7⟩:=ho7.bsn (n:=4) (be_length _ _)
 have hI7:=hI6.below hb7
 clear hI6 hB6 ho7
 go_wp2_with fail
 refine (wraw_ok hI7 hB7 (by unfold big; omega)).mono ?_
 rintro e w8 ⟨rfl,hI8⟩
 rw [<- HX.out] at hI8
 have hZl : (recBytes kind seq ys).length <= 3000:=by rw [HX.out,List.length_append,be_length]; omega
 obtain ⟨Z,hZe⟩:=qnm (recBytes kind seq ys)
 rw [<- hZe] at hI8 hZl
 have HZ:=qh hZe
 clear hZe hB7 hI7
 go_wp2_with fail
 refine (wdone_ok hI8 (by unfold big; omega)).mono ?_
 rintro e w9 ⟨a9,c9,rfl,ho,hB9,hI9⟩
 go_wp2_with fail
 go_ret2
 have hEf:=hE1.to (hI9.1.1.mono (by rw [HP.out]; exact hE1.2))
 exact ⟨.slice a9 Z.length c9,rfl,by rw [<- HZ.out]; exact ho.base (hE1.to (hI8.1.1.mono (by rw [HP.out]; exact hE1.2))).2,hEf.1⟩
theorem recsize_any (kind : Int) (seq : Nat) (a : Option Addr) (len cap : Nat) (w : World) :
  Calls Tryz.prog 139 #[.agg #[.int .i64 kind,.int .u64 (seq : Int),.slice a len cap]] w fun e w' => e = .returned (.int .i64 (if RecOk kind seq len then 15 + (len : Int) else 0)) /\ Below w.heap.size w w':=by
 have HR:=qh (recright_any kind seq a len cap (w.alloc (.cells #[.int .i64 kind,.int .u64 (seq : Int),.slice a len cap] 69)))
 by_cases hok : RecOk kind seq len
 ·rw [decide_eq_true hok] at HR
  rw [if_pos hok]
  have hl:=hok.2.1
  clear hok
  go_enter Tryz.func139,Tryz.ntmps139
  go_wp2_with fail
  refine HR.out.mono ?_
  rintro e w1 ⟨rfl,hb⟩
  have c2 : w1.cell? ⟨w.heap.size,2,none⟩ = some (.slice a len cap):=cell_new_below hb 2
  have hE:=((Ext.refl w).alloc (.cells #[.int .i64 kind,.int .u64 (seq : Int),.slice a len cap] 69)).step hb
  go_wp2_with fail
  go_ret
  exact ⟨ret_int (by omega),hE.1⟩
 ·rw [decide_eq_false hok] at HR
  rw [if_neg hok]
  clear hok
  go_enter Tryz.func139,Tryz.ntmps139
  go_wp2_with fail
  refine HR.out.mono ?_
  rintro e w1 ⟨rfl,hb⟩
  go_wp2_with fail
  go_ret
  exact ⟨rfl,(((Ext.refl w).alloc _).step hb).1⟩
def rdK (xs : List UInt8) : Nat × (List UInt8 × Nat):=rdByte (xs,0)
def rdQ (xs : List UInt8) : Nat × (List UInt8 × Nat):=rdLong (rdK xs).2
def rdB (xs : List UInt8) : List UInt8 × (List UInt8 × Nat):=rdBytes (rdQ xs).2
def rdE (xs : List UInt8) : Nat:=xs.length - rdLeft (rdB xs).2
def rdW (xs : List UInt8) : List UInt8:=(rdRaw (rdB xs).2 4).1
def badHead : List UInt8 -> Bool
 | [] => false
 | x :: _ => x != 1 && x != 2
def recWhy (xs : List UInt8) : Nat :=
 if badHead xs = true then 12
 else if (rdW xs).length < 4 then 10
 else if rdW xs ≠ be (crcMore 0 (xs.take (rdE xs))) 4 then 14
 else if ¬ RecOk ((rdK xs).1 : Nat) (rdQ xs).1 (rdB xs).1.length then 12 else 0
def recV (k : Int) (q : Nat) (v : Value) (n e : Int) : Value:=.tuple #[.agg #[.int .i64 k,.int .u64 (q : Int),v],.int .i64 n,.int .i64 e]
theorem recdec_head (a : Option Addr) (len cap : Nat) (xs : List UInt8) (w : World) (h : Bs w a len cap xs) (hb : badHead xs = true) :
  Calls Tryz.prog 202 #[.slice a len cap] w fun e w' => e = .returned (recV 0 0 (.slice none 0 0) 0 12) /\ Below w.heap.size w w':=by
 match xs,hb with
 | x :: ys,hb =>
  have hlen:=h.1
  simp only [List.length_cons] at hlen
  simp only [badHead,Bool.and_eq_true,bne_iff_ne] at hb
  obtain ⟨b,off,rfl,hbl,hc⟩ : ∃ b off,a = some ⟨b,off,none⟩ /\ b < w.heap.size /\ w.cell? ⟨b,off,none⟩ = some (.int .u8 (x.toNat : Int)):=by
   rcases h.2.2.2 with h | ⟨b,off,h1,h2,h3⟩
   ·omega
   ·exact ⟨b,off,h1,h2,by have:=h3 0 (by simp); rw [Nat.add_zero] at this; exact this⟩
  have e1 : ((x.toNat : Int) != 1) = true:=by
   rw [bne_iff_ne]; intro h; exact hb.1 (UInt8.toNat_inj.1 (by rw [show (1 : UInt8).toNat = 1 from rfl]; omega))
  have e2 : ((x.toNat : Int) != 2) = true:=by
   rw [bne_iff_ne]; intro h; exact hb.2 (UInt8.toNat_inj.1 (by rw [show (2 : UInt8).toNat = 2 from rfl]; omega))
  have hl0 : (0 : Int) < (len : Int):=by omega
  clear h hb hlen
  go_enter Tryz.func202,Tryz.ntmps202
  go_wp2_with fail
  refine bodyPost_ret (v:=recV 0 0 (.slice none 0 0) 0 12) (by simp [results,Tryz.results202,go_sem,recV]) rfl ⟨rfl,?_⟩
  exact ((Ext.refl w).alloc _).1
end
end Go.Proofs.YtabdcphioccgnaaGreatDoor
