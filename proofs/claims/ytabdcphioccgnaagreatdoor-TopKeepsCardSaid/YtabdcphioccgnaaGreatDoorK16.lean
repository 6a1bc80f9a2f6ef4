/- Arg; RecordRows; Fits; Strs; Path; Sclone; Path2. -/
import Derived.ChangeOld
import Derived.Deep.Slices
import Derived.Laws.OwnMore
import Derived.ProofKit
import Derived.Test.YtabdcphioccgnaaGreatDoorK10
set_option maxRecDepth 100000
set_option maxHeartbeats 8000000
namespace Go.Proofs.YtabdcphioccgnaaGreatDoor
section
open Go.RowKit
section
variable {P : Program}
def Can (P : Program) (w : World) (t : TypeId) (cs : List Value) : Prop :=
 ∃ (H : Type) (enc : TypeId × Value -> H) (fuel : Nat) (x : DataW H × List MemPlace),DataW.trod enc P w 0 (fun _ => true) true fuel t cs = some x
def Arg (P : Program) (w : World) (t : TypeId) (v : Value) : Prop:=(∃ b r,Value.okWide P w r b t v) /\ Can P w t v.cells.toList
theorem Can.int {w : World} {t : TypeId} {cs : List Value} {k : IntKind} (h : Can P w t cs) (ht : P.underlying t = some (.int k)) : ∃ n,cs = [.int k n] /\ (Lit.int k n).wf = true:=by
 obtain ⟨H,enc,fuel,x,h⟩:=h
 obtain ⟨n,h1,_,h3⟩:=DataW.trod_int ht h
 exact ⟨n,h1,h3⟩
theorem Can.bool {w : World} {t : TypeId} {cs : List Value} (h : Can P w t cs) (ht : P.underlying t = some .bool) : ∃ b,cs = [.bool b]:=by
 obtain ⟨H,enc,fuel,x,h⟩:=h
 obtain ⟨n,h1,_⟩:=DataW.trod_bool ht h
 exact ⟨n,h1⟩
theorem Can.slice {w : World} {t e : TypeId} {cs : List Value} (h : Can P w t cs) (ht : P.underlying t = some (.slice e)) :
  (cs = [.slice none 0 0]) ∨ ∃ (a : Addr) (len cap : Nat),cs = [.slice (some a) len cap] /\ len <= cap /\ cap <= maxLen /\
   ∀ i,i < cap -> ∃ cs',w.cells? 0 (a.add (i * P.cellsOf e)) (P.cellsOf e) = some cs' /\ Can P w e cs':=by
 obtain ⟨H,enc,fuel,x,h⟩:=h
 rcases Deep.open_slice ht h with ⟨h,_⟩ | ⟨a,len,cap,m,n,D,Pl,h1,_,h3,h4,h5,_,h7⟩
 ·exact .inl h
 ·refine .inr ⟨a,len,cap,h1,h3,h4,fun i hi => ?_⟩
  obtain ⟨cs',h8,h9⟩:=h7 i (by rw [h5]; exact hi)
  exact ⟨cs',h8,H,enc,n,_,h9⟩
theorem cells?_at {w : World} {a : Addr} {n : Nat} {cs : List Value} (h : w.cells? 0 a n = some cs) (hn : 0 < n) :
  ∃ b off,a = ⟨b,off,none⟩ /\ b < w.heap.size /\ cs.length = n /\ ∀ j (hj : j < cs.length),w.cell? ⟨b,off + j,none⟩ = some cs[j]:=by
 obtain ⟨_,h2,h3⟩:=World.cells?_some h
 obtain ⟨b,off,spot⟩:=a
 have h0:=h3 0 hn
 simp only [Addr.add,if_true] at h0
 have hlen : 0 < cs.length:=by omega
 rw [List.getElem?_eq_getElem hlen] at h0
 have hspot : spot = none:=World.cell?_spot h0
 subst hspot
 refine ⟨b,off,rfl,World.block_lt_of_cell? w _ h0,h2,fun j hj => ?_⟩
 have hj3:=h3 j (by omega)
 have he : (⟨b,off,none⟩ : Addr).add j = ⟨b,off + j,none⟩:=by by_cases hi0 : j = 0 <;> simp [Addr.add,hi0]
 rw [he] at hj3
 rw [hj3,List.getElem?_eq_getElem hj]
theorem Can.elems {w : World} {t e : TypeId} {cs : List Value} (h : Can P w t cs) (ht : P.underlying t = some (.slice e)) (hs : 0 < P.cellsOf e) :
  ∃ (a : Option Addr) (len cap : Nat),cs = [.slice a len cap] /\ len <= cap /\ cap <= maxLen /\ (len = 0 ∨ ∃ b off,a = some ⟨b,off,none⟩ /\ b < w.heap.size /\
   ∀ i,i < len -> ∃ cs' : List Value,Can P w e cs' /\ cs'.length = P.cellsOf e /\ ∀ j (hj : j < cs'.length),w.cell? ⟨b,off + i * P.cellsOf e + j,none⟩ = some cs'[j]):=by
 rcases h.slice ht with rfl | ⟨a,len,cap,rfl,h2,h3,h4⟩
 ·exact ⟨none,0,0,rfl,Nat.le_refl _,by simp [maxLen],.inl rfl⟩
 ·refine ⟨some a,len,cap,rfl,h2,h3,?_⟩
  by_cases h0 : len = 0
  ·exact .inl h0
  ·obtain ⟨cs0,hc0,_⟩:=h4 0 (by omega)
   obtain ⟨b,off,ha,hb,_,_⟩:=cells?_at hc0 hs
   rw [Nat.zero_mul] at ha
   have ha' : a = ⟨b,off,none⟩:=by simpa [Addr.add] using ha
   subst ha'
   refine .inr ⟨b,off,rfl,hb,fun i hi => ?_⟩
   obtain ⟨cs',hc',hr⟩:=h4 i (by omega)
   obtain ⟨b',off',ha',_,hl',hc''⟩:=cells?_at hc' hs
   have he : (⟨b,off,none⟩ : Addr).add (i * P.cellsOf e) = ⟨b,off + i * P.cellsOf e,none⟩:=by
    by_cases hi0 : i * P.cellsOf e = 0 <;> simp [Addr.add,hi0]
   rw [he] at ha'
   cases ha'
   exact ⟨cs',hr,hl',hc''⟩
theorem Can.bytes {w : World} {t e : TypeId} {cs : List Value} (h : Can P w t cs) (ht : P.underlying t = some (.slice e)) (he : P.underlying e = some (.int .u8)) (hs : P.cellsOf e = 1) :
  ∃ (a : Option Addr) (len cap : Nat) (xs : List UInt8),cs = [.slice a len cap] /\ Bs w a len cap xs:=by
 obtain ⟨a,len,cap,rfl,h2,h3,h4⟩:=h.elems ht (by omega)
 refine ⟨a,len,cap,?_⟩
 rcases h4 with rfl | ⟨b,off,rfl,hb,hc⟩
 ·exact ⟨[],rfl,rfl,h2,h3,.inl rfl⟩
 ·have hx : ∀ i,i < len -> ∃ x : UInt8,w.cell? ⟨b,off + i,none⟩ = some (.int .u8 (x.toNat : Int)):=fun i hi => by
   obtain ⟨cs',hr,hl,hc'⟩:=hc i hi
   obtain ⟨n,rfl,hw⟩:=hr.int he
   have:=hc' 0 (by simp)
   rw [hs,Nat.mul_one] at this
   exact ⟨byteOf n,by rw [byteOf_toNat hw]; simpa using this⟩
  obtain ⟨f,hf⟩:=Deep.choose_lt hx
  exact ⟨(List.range len).map f,rfl,by simp,h2,h3,.inr ⟨b,off,rfl,hb,fun i hi => by simp at hi; simpa using hf i hi⟩⟩
def Bools (w : World) (a : Option Addr) (len cap : Nat) (xs : List Bool) : Prop :=
 xs.length = len /\ len <= cap /\ cap <= maxLen /\ (len = 0 ∨ ∃ b off,a = some ⟨b,off,none⟩ /\ b < w.heap.size /\ ∀ i (h : i < xs.length),w.cell? ⟨b,off + i,none⟩ = some (.bool xs[i]))
theorem Can.bools {w : World} {t e : TypeId} {cs : List Value} (h : Can P w t cs) (ht : P.underlying t = some (.slice e)) (he : P.underlying e = some .bool) (hs : P.cellsOf e = 1) :
  ∃ (a : Option Addr) (len cap : Nat) (xs : List Bool),cs = [.slice a len cap] /\ Bools w a len cap xs:=by
 obtain ⟨a,len,cap,rfl,h2,h3,h4⟩:=h.elems ht (by omega)
 refine ⟨a,len,cap,?_⟩
 rcases h4 with rfl | ⟨b,off,rfl,hb,hc⟩
 ·exact ⟨[],rfl,rfl,h2,h3,.inl rfl⟩
 ·have hx : ∀ i,i < len -> ∃ x : Bool,w.cell? ⟨b,off + i,none⟩ = some (.bool x):=fun i hi => by
   obtain ⟨cs',hr,hl,hc'⟩:=hc i hi
   obtain ⟨x,rfl⟩:=hr.bool he
   have:=hc' 0 (by simp)
   rw [hs,Nat.mul_one] at this
   exact ⟨x,by simpa using this⟩
  obtain ⟨f,hf⟩:=Deep.choose_lt hx
  exact ⟨(List.range len).map f,rfl,by simp,h2,h3,.inr ⟨b,off,rfl,hb,fun i hi => by simp at hi; simpa using hf i hi⟩⟩
theorem Arg.sliceCan {w : World} {t e : TypeId} {v : Value} (h : Arg P w t v) (ht : P.underlying t = some (.slice e)) : ∃ a len cap,v = .slice a len cap /\ Can P w t [.slice a len cap]:=by
 obtain ⟨⟨b,r,h1⟩,h2⟩:=h
 obtain ⟨a,len,cap,rfl⟩:=WideShapes.okWide_slice ht h1
 exact ⟨a,len,cap,rfl,by simpa [Value.cells] using h2⟩
theorem Arg.bools {w : World} {t e : TypeId} {v : Value} (h : Arg P w t v) (ht : P.underlying t = some (.slice e)) (he : P.underlying e = some .bool) (hs : P.cellsOf e = 1) :
  ∃ (a : Option Addr) (len cap : Nat) (xs : List Bool),v = .slice a len cap /\ Bools w a len cap xs:=by
 obtain ⟨a,len,cap,rfl,h2⟩:=h.sliceCan ht
 obtain ⟨a',len',cap',xs,h3,h4⟩:=h2.bools ht he hs
 cases h3
 exact ⟨a,len,cap,xs,rfl,h4⟩
end
theorem ownsRow_below {w w' : World} {B n size : Nat} {e : TypeId} {v : Value} {xs : List Value} (h : w.ownsRow B e size v n xs) (hb : Below w.heap.size w w') : w'.ownsRow B e size v n xs :=
 h.kept (row:=none) ⟨hb.os,hb.tape,hb.output,hb.size,fun k hk _ => hb.block k hk⟩ (by cases hv : v.ownBlock <;> simp)
structure Rc where
 k : Int
 q : Nat
 a : Option Addr
 m : Nat
 c : Nat
 ys : List UInt8
instance : Inhabited Rc:=⟨⟨0,0,none,0,0,[]⟩⟩
def Rc.In (w : World) (b o : Nat) (r : Rc) : Prop :=
 w.cell? ⟨b,o,none⟩ = some (.int .i64 r.k) /\ w.cell? ⟨b,o + 1,none⟩ = some (.int .u64 (r.q : Int)) /\ w.cell? ⟨b,o + 2,none⟩ = some (.slice r.a r.m r.c) /\ r.q < 18446744073709551616 /\ Bs w r.a r.m r.c r.ys
def Recs (w : World) (a : Option Addr) (len cap : Nat) (ls : List Rc) : Prop :=
 ls.length = len /\ len <= cap /\ cap <= maxLen /\ (len = 0 ∨ ∃ b off,a = some ⟨b,off,none⟩ /\ b < w.heap.size /\ ∀ i (h : i < ls.length),ls[i].In w b (off + i * 3))
theorem Recs.at {w : World} {a : Option Addr} {len cap : Nat} {ls : List Rc} (h : Recs w a len cap ls) :
  ∃ b off,Hid (0 < len -> a = some ⟨b,off,none⟩ /\ b < w.heap.size /\ ∀ i (h : i < ls.length),ls[i].In w b (off + i * 3)):=by
 rcases h.2.2.2 with h | ⟨b,off,h1,h2,h3⟩
 ·exact ⟨0,0,qh fun h' => by omega⟩
 ·exact ⟨b,off,qh fun _ => ⟨h1,h2,h3⟩⟩
def fitsN : Nat -> List Rc -> Nat
 | _,[] => 0
 | left,r :: rs => if RecOk r.k r.q r.m /\ 15 + r.m <= left then fitsN (left - (15 + r.m)) rs + 1 else 0
theorem fitsN_nil (left : Nat) : fitsN left [] = 0:=by unfold fitsN; rfl
theorem fitsN_cons (left : Nat) (r : Rc) (rs : List Rc) : fitsN left (r :: rs) = if RecOk r.k r.q r.m /\ 15 + r.m <= left then fitsN (left - (15 + r.m)) rs + 1 else 0:=by rw [fitsN]
theorem fits_any (a : Option Addr) (len cap : Nat) (ls : List Rc) (w : World) (hR : Recs w a len cap ls) (hl : len <= 1000000) :
  Calls Tryz.prog 70 #[.slice a len cap] w fun e w' => e = .returned (.int .i64 (fitsN 942 ls : Int)) /\ Below w.heap.size w w':=by
 obtain ⟨gb,go,HAT⟩:=hR.at
 have HL:=qh hR.1
 clear hR
 go_enter Tryz.func70,Tryz.ntmps70
 go_wp2_with fail
 go_loopw [3,8] (fun lf i wr => ∃ L k : Nat,L <= 942 /\ k <= len /\ lf = .int .i64 (L : Int) /\ i = .int .i64 (k : Int) /\ fitsN 942 ls = fitsN L (ls.drop k) + k /\ Ext w.heap.size w wr) (fun _ i _ => len - (intOf i).toNat)
 case atStart => exact ⟨942,0,by omega,by omega,rfl,rfl,rfl,Ext.refl w⟩
 case round =>
  obtain ⟨L,k,hL,hk,rfl,rfl,hf,hE⟩:=hrel
  by_cases hlt : k < len
  ·obtain ⟨rfl,hgb,hcells⟩:=HAT.out (by omega)
   have hk2 : k < ls.length:=by rw [HL.out]; exact hlt
   have hc:=hcells k hk2
   rw [List.drop_eq_getElem_cons hk2] at hf
   clear hcells
   generalize ls[k]'hk2 = r at hc hf
   obtain ⟨rk,rq,ra,rm,rcap,rys⟩:=r
   obtain ⟨hc0,hc1,hc2,hq,hB⟩:=hc
   simp only at hc0 hc1 hc2 hq hB
   rw [fitsN_cons] at hf
   simp only at hf
   have c0:=(hE.1.cell (p:=⟨gb,go + k * 3,none⟩) hgb).trans hc0
   have c1:=(hE.1.cell (p:=⟨gb,go + k * 3 + 1,none⟩) hgb).trans hc1
   have c2:=(hE.1.cell (p:=⟨gb,go + k * 3 + 2,none⟩) hgb).trans hc2
   clear hc0 hc1 hc2 hB hq hk2
   have e1 : (0 : Int) <= (k : Int):=by omega
   have e2 : (k : Int) < (len : Int):=by omega
   obtain ⟨k2,hk2⟩:=qnm (k + 1)
   have e3 : IntKind.i64.wrap ((k : Int) + 1) = (k2 : Int):=by rw [IntWalk.i64_in _ (by omega)]; omega
   have HF:=qh hf
   have HK:=qh hk2
   have hE0:=qh (hE.alloc (.cells #[.int .i64 rk,.int .u64 (rq : Int),.slice ra rm rcap] 69))
   clear hf hk2 hE hk
   by_cases hok : RecOk rk rq rm
   ·have HR:=qh (fun w => recright_any rk rq ra rm rcap w)
    have HS:=qh (fun w => recsize_any rk rq ra rm rcap w)
    rw [decide_eq_true hok] at HR
    rw [if_pos hok] at HS
    have hrm:=hok.2.1
    obtain ⟨sz,hsz⟩ : ∃ sz : Nat,sz = 15 + rm:=⟨_,rfl⟩
    have hsz' : (15 : Int) + (rm : Int) = (sz : Int):=by omega
    rw [hsz'] at HS
    have HOK:=qh hok
    have HZ:=qh (aI hsz hrm)
    clear hok hsz hsz' hrm
    by_cases hfit : sz <= L
    ·obtain ⟨L2,hL2⟩ : ∃ L2 : Nat,L2 = L - sz:=⟨_,rfl⟩
     have e4 : IntKind.i64.wrap ((L : Int) - (sz : Int)) = (L2 : Int):=by rw [IntWalk.i64_in _ (by omega)]; omega
     have hlf : ¬ (L : Int) < (sz : Int):=by omega
     have HL2:=qh (aI hL2 hfit)
     clear hL2 hfit
     go_wp2_with fail
     refine (HR.out _).mono ?_
     rintro e w1 ⟨rfl,hb1⟩
     have d0 : w1.cell? ⟨wr.heap.size,0,none⟩ = some (.int .i64 rk):=cell_new_below hb1 0
     have d1 : w1.cell? ⟨wr.heap.size,1,none⟩ = some (.int .u64 (rq : Int)):=cell_new_below hb1 1
     have d2 : w1.cell? ⟨wr.heap.size,2,none⟩ = some (.slice ra rm rcap):=cell_new_below hb1 2
     have hlt1 : wr.heap.size < w1.heap.size:=by have:=hb1.size; simp at this; omega
     have hE1:=qh (hE0.out.step hb1)
     clear hb1 c0 c1 c2
     go_wp2_with fail
     refine (HS.out _).mono ?_
     rintro e w2 ⟨rfl,hb2⟩
     have d0:=(hb2.cell (p:=⟨wr.heap.size,0,none⟩) hlt1).trans d0
     have d1:=(hb2.cell (p:=⟨wr.heap.size,1,none⟩) hlt1).trans d1
     have d2:=(hb2.cell (p:=⟨wr.heap.size,2,none⟩) hlt1).trans d2
     have hE2:=qh (hE1.out.step hb2)
     clear hb2 hE1
     go_wp2_with fail
     refine (HS.out _).mono ?_
     rintro e w3 ⟨rfl,hb3⟩
     have hE3:=qh (hE2.out.step hb3)
     clear hb3 hE2
     go_wp2_with fail
     go_roundw
     case rel =>
      obtain ⟨hL2,hfit⟩:=HL2.out
      obtain ⟨hsz,_⟩:=HZ.out
      have hk2:=HK.out
      have hf:=HF.out
      rw [if_pos ⟨HOK.out,by omega⟩] at hf
      refine ⟨L2,k2,by omega,by omega,rfl,rfl,?_,hE3.out⟩
      rw [hf,hk2,hL2,hsz]
      omega
     case measure =>
      have hk2:=HK.out
      show len - (k2 : Int).toNat < len - (k : Int).toNat
      omega
    ·have hlf : (L : Int) < (sz : Int):=by omega
     have HN:=qh hfit
     clear hfit
     go_wp2_with fail
     refine (HR.out _).mono ?_
     rintro e w1 ⟨rfl,hb1⟩
     have d0 : w1.cell? ⟨wr.heap.size,0,none⟩ = some (.int .i64 rk):=cell_new_below hb1 0
     have d1 : w1.cell? ⟨wr.heap.size,1,none⟩ = some (.int .u64 (rq : Int)):=cell_new_below hb1 1
     have d2 : w1.cell? ⟨wr.heap.size,2,none⟩ = some (.slice ra rm rcap):=cell_new_below hb1 2
     have hE1:=qh (hE0.out.step hb1)
     clear hb1 c0 c1 c2
     go_wp2_with fail
     refine (HS.out _).mono ?_
     rintro e w2 ⟨rfl,hb2⟩
     have hE2:=qh (hE1.out.step hb2)
     clear hb2 hE1
     go_wp2_with fail
     go_ret
     obtain ⟨hsz,_⟩:=HZ.out
     have hf:=HF.out
     have hN:=HN.out
     rw [if_neg (fun h => by have:=h.2; omega)] at hf
     exact ⟨by rw [hf,Nat.zero_add]; rfl,hE2.out.1⟩
   ·have HR:=qh (fun w => recright_any rk rq ra rm rcap w)
    rw [decide_eq_false hok] at HR
    have HN:=qh hok
    clear hok
    go_wp2_with fail
    refine (HR.out _).mono ?_
    rintro e w1 ⟨rfl,hb1⟩
    have hE1:=qh (hE0.out.step hb1)
    clear hb1 c0 c1 c2
    go_wp2_with fail
    go_ret
    have hf:=HF.out
    rw [if_neg (fun h => HN.out h.1)] at hf
    exact ⟨by rw [hf,Nat.zero_add]; rfl,hE1.out.1⟩
  ·obtain rfl : k = len:=by omega
   clear hlt
   have hd : ls.drop k = []:=List.drop_eq_nil_of_le (by rw [HL.out]; exact Nat.le_refl _)
   rw [hd] at hf
   clear hd
   go_wp2_with fail
   go_ret
   exact ⟨by rw [hf,fitsN_nil,Nat.zero_add]; rfl,hE.1⟩
abbrev TST : TypeId:=9
abbrev TSS : TypeId:=31
def sv (s : List UInt8) : Value:=.string (strOf s)
def Ss (w : World) (a : Option Addr) (len cap : Nat) (ls : List (List UInt8)) : Prop :=
 ls.length = len /\ len <= cap /\ cap <= maxLen /\ (len = 0 ∨ ∃ b off,a = some ⟨b,off,none⟩ /\ b < w.heap.size /\ ∀ i (h : i < ls.length),w.cell? ⟨b,off + i,none⟩ = some (.string (strOf ls[i])))
theorem Ss.nil (w : World) : Ss w none 0 0 []:=⟨rfl,Nat.le_refl _,by simp [maxLen],.inl rfl⟩
theorem Ss.below {w w' : World} {a : Option Addr} {len cap : Nat} {ls : List (List UInt8)} (h : Ss w a len cap ls) (hb : Below w.heap.size w w') : Ss w' a len cap ls:=by
 obtain ⟨h1,h2,h3,h4⟩:=h
 refine ⟨h1,h2,h3,?_⟩
 rcases h4 with h4 | ⟨b,off,h4,h5,h6⟩
 ·exact .inl h4
 ·exact .inr ⟨b,off,h4,Nat.lt_of_lt_of_le h5 hb.size,fun i hi => by rw [hb.cell (p:=⟨b,off + i,none⟩) h5]; exact h6 i hi⟩
theorem Ss.alloc {w : World} {a : Option Addr} {len cap : Nat} {ls : List (List UInt8)} (h : Ss w a len cap ls) (o : Obj) : Ss (w.alloc o) a len cap ls:=h.below ((Below.refl _ _).alloc (Nat.le_refl _) o)
theorem Ss.take {w : World} {a : Option Addr} {len cap : Nat} {ls : List (List UInt8)} (h : Ss w a len cap ls) {k : Nat} (hk : k <= len) : Ss w a k cap (ls.take k):=by
 obtain ⟨h1,h2,h3,h4⟩:=h
 refine ⟨by simp; omega,by omega,h3,?_⟩
 rcases h4 with h4 | ⟨b,off,h4,h5,h6⟩
 ·exact .inl (by omega)
 ·exact .inr ⟨b,off,h4,h5,fun i hi => by simp at hi; rw [h6 i (by omega)]; simp⟩
theorem Ss.at {w : World} {a : Option Addr} {len cap : Nat} {ls : List (List UInt8)} (h : Ss w a len cap ls) (h0 : 0 < len) : ∃ b off,a = some ⟨b,off,none⟩ /\ b < w.heap.size /\ ∀ i (h : i < ls.length),w.cell? ⟨b,off + i,none⟩ = some (.string (strOf ls[i])):=by
 rcases h.2.2.2 with h1 | h1
 ·omega
 ·exact h1
def OwnS (w : World) (B : Nat) (v : Value) (ls : List (List UInt8)) : Prop:=w.ownsRow B TST 1 v ls.length (ls.map sv)
theorem OwnS.nil (w : World) (B : Nat) : OwnS w B (.slice none 0 0) []:=World.ownsRow_nil w B TST 1
theorem OwnS.lt {w : World} {B : Nat} {v : Value} {ls : List (List UInt8)} (h : OwnS w B v ls) : ∀ k,v.ownBlock = some k -> B <= k /\ k < w.heap.size:=World.ownsRow.lt h
theorem OwnS.ss {w : World} {B n : Nat} {v : Value} {ls : List (List UInt8)} (h : OwnS w B v ls) (hn : ls.length = n) : ∃ a cap,v = .slice a n cap /\ Ss w a n cap ls:=by
 subst hn
 have h1:=h
 rcases h.2 with ⟨rfl,h4⟩ | ⟨g,cap,cur,rfl,h6,h7,h8,h9,h10,h11⟩
 ·obtain rfl:=List.length_eq_zero_iff.1 h4
  exact ⟨none,0,rfl,Ss.nil w⟩
 ·refine ⟨some ⟨g,0,none⟩,cap,rfl,rfl,h8,h9,.inr ⟨g,0,rfl,(Array.getElem?_eq_some_iff.1 h7).1,fun i hi => ?_⟩⟩
  rw [Nat.zero_add,World.ownsRow.cellAt (size:=1) h1 i (by omega)]
  simp [sv,hi]
theorem OwnS.blk {w : World} {B : Nat} {v : Value} {ls : List (List UInt8)} (h : OwnS w B v ls) : ∀ k,v.ownBlock = some k -> B <= k:=fun k hk => (h.lt k hk).1
theorem infoTST : (Tryz.prog.info? TST).map (fun i => (i.zero,i.size,i.bytes)) = some (some (.string ⟨#[]⟩),1,16):=by kernel_rfl
theorem info_partsS {i? : Option TypeInfo} {z : Value} {s b : Nat} (h : i?.map (fun i => (i.zero,i.size,i.bytes)) = some (some z,s,b)) : ∃ i,i? = some i /\ i.zero = some z /\ i.size = s /\ i.bytes = b:=by
 cases i? with
 | none => cases h
 | some i => simp at h; exact ⟨i,rfl,h.1,h.2.1,h.2.2⟩
theorem goodC_iff (r : UInt8) : goodC r = true ↔ (97 <= (r.toNat : Int) /\ (r.toNat : Int) <= 122) ∨ (48 <= (r.toNat : Int) /\ (r.toNat : Int) <= 57) ∨ (r.toNat : Int) = 46 ∨ (r.toNat : Int) = 45 ∨ (r.toNat : Int) = 95:=by
 have h1 : ∀ (k : UInt8),(r == k) = true ↔ (r.toNat : Int) = (k.toNat : Int):=fun k => by
  rw [beq_iff_eq]
  constructor
  ·rintro rfl; rfl
  ·intro h; exact UInt8.toNat_inj.1 (by omega)
 unfold goodC
 simp only [Bool.or_eq_true,Bool.and_eq_true,decide_eq_true_eq,h1,UInt8.le_iff_toNat_le]
 simp only [show (97 : UInt8).toNat = 97 from rfl,show (122 : UInt8).toNat = 122 from rfl,show (48 : UInt8).toNat = 48 from rfl,show (57 : UInt8).toNat = 57 from rfl,show (46 : UInt8).toNat = 46 from rfl,show (45 : UInt8).toNat = 45 from rfl,show (95 : UInt8).toNat = 95 from rfl]
 omega
theorem good_any (s : List UInt8) (hs : s.length <= 1000000) (w : World) :
  Calls Tryz.prog 235 #[.string (strOf s)] w fun e w' => e = .returned (.bool (goodN s)) /\ Below w.heap.size w w':=by
 have hcv:=run_bytes s w
 have hB:=convW_bs w s (by unfold maxLen; omega)
 have hE:=qh (show Ext w.heap.size w (convW w s) from ⟨convW_below w s,(convW_below w s).size⟩)
 obtain ⟨cap,hcap⟩:=qnm (convCap w s)
 obtain ⟨w1,hw1⟩:=qnm (convW w s)
 obtain ⟨n,hn⟩:=qnm s.length
 rw [<- hcap,<- hw1,<- hn] at hcv
 rw [<- hcap,<- hw1,<- hn] at hB
 rw [<- hw1] at hE
 have HN:=qh hn
 have HB:=qh hB
 have hlast : ∀ x : List UInt8,((strOf s).toList == x) = (s == x):=fun x => by rw [strOf_toList]
 clear hcap hw1 hn hB
 go_enter Tryz.func235,Tryz.ntmps235
 go_wp2_with fail
 go_loopw [8] (fun i wr => ∃ k : Nat,k <= n /\ i = .int .i64 (k : Int) /\ wr = w1 /\ (s.take k).all goodC = true) (fun i _ => n - (intOf i).toNat)
 case atStart => exact ⟨0,by omega,rfl,rfl,by simp⟩
 case round =>
  obtain ⟨k,hk,rfl,rfl,hall⟩:=hrel
  have hn:=HN.out
  have HA:=qh hall
  clear hall
  by_cases hlt : k < n
  ·have hk2 : k < s.length:=by omega
   have hty:=List.take_append_getElem hk2
   have hcell : wr.cell? ⟨w.heap.size,k,none⟩ = some (.int .u8 (s[k].toNat : Int)):=by
    rcases HB.out.2.2.2 with h0 | ⟨b,off,h1,h2,h3⟩
    ·omega
    ·injection h1 with h1; injection h1 with h1 h1'; subst h1 h1'; have:=h3 k hk2; rwa [Nat.zero_add] at this
   have hmem : ∀ g,s.all g = true -> g s[k] = true:=fun g hg => (List.all_eq_true.1 hg) _ (List.getElem_mem hk2)
   have hgc:=goodC_iff s[k]
   have h256:=s[k].toNat_lt
   generalize s[k] = r at hcell hty hmem hgc h256
   obtain ⟨c,hc⟩ : ∃ c : Int,c = (r.toNat : Int):=⟨_,rfl⟩
   rw [<- hc] at hcell hgc
   have HT:=qh hty
   have HM:=qh (aI hmem hgc)
   have e1 : (0 : Int) <= (k : Int):=by omega
   have e2 : (k : Int) < (n : Int):=by omega
   obtain ⟨k2,hk2'⟩:=qnm (k + 1)
   have e3 : IntKind.i64.wrap ((k : Int) + 1) = (k2 : Int):=by rw [IntWalk.i64_in _ (by omega)]; omega
   have HK:=qh hk2'
   clear hty hmem hgc hc h256 hk2 hn hk2' hk
   go_upto_region 4 with fail
   go_cut [38] (fun x wx => x = .bool (!goodC r) /\ wx = wr)
   case first =>
    have hgc:=HM.out.2
    have hB : ∀ b : Bool,(goodC r = true ↔ b = true) -> goodC r = b:=fun b h => Bool.eq_iff_iff.2 h
    have HG:=qh (aI hgc hB)
    clear hgc hB
    by_cases a1 : 97 <= c <;> by_cases a2 : c <= 122 <;> by_cases a3 : 48 <= c <;> by_cases a4 : c <= 57 <;> by_cases a5 : c = 46 <;> by_cases a6 : c = 45 <;> by_cases a7 : c = 95 <;> first | (exfalso; omega) | skip
    all_goals (first | (have t5:=beq_iff_eq.2 a5; replace a5:=qh a5) | skip)
    all_goals (first | (have t6:=beq_iff_eq.2 a6; replace a6:=qh a6) | skip)
    all_goals (first | (have t7:=beq_iff_eq.2 a7; replace a7:=qh a7) | skip)
    all_goals go_wp2_with fail
    all_goals go_meet
    all_goals refine ⟨?_,rfl⟩
    all_goals (
     obtain ⟨hgc,hB⟩:=HG.out
     try have a5:=a5.out
     try have a6:=a6.out
     try have a7:=a7.out
     first | (rw [hB true (by rw [hgc]; simp; omega)]; first | rfl | simp [*]) | (rw [hB false (by rw [hgc]; simp; omega)]; first | rfl | simp [*]))
   case rest =>
    obtain ⟨rfl,rfl⟩:=hcut
    cases hg : goodC r with
    | false =>
     have HG:=qh hg
     clear hg
     go_wp2_with fail
     go_ret
     refine ⟨ret_bool ?_,hE.out.1⟩
     cases hs : s.all goodC with
     | true => rw [HM.out.1 _ hs] at *; exact absurd HG.out (by simp)
     | false => unfold goodN; rw [hs]; rfl
    | true =>
     have HG:=qh hg
     clear hg
     go_wp2_with fail
     go_roundw
     case rel =>
      have hk2:=HK.out
      refine ⟨k2,by omega,rfl,trivial,?_⟩
      rw [hk2,<- HT.out,List.all_append,HA.out]
      simp [HG.out]
     case measure =>
      have hk2:=HK.out
      show n - (k2 : Int).toNat < n - (k : Int).toNat
      omega
  ·obtain rfl : k = n:=by omega
   have hall : s.all goodC = true:=by have:=HA.out; rwa [List.take_of_length_le (by rw [<- hn]; exact Nat.le_refl _)] at this
   have HS:=qh hall
   clear hlt hk HA hall hn
   have hz : ((strOf s).size : Int) = (s.length : Int):=rfl
   obtain ⟨m,hm⟩ : ∃ m : Nat,m = s.length:=⟨_,rfl⟩
   rw [<- hm] at hz
   have HM2:=qh hm
   clear hm
   by_cases h16 : (m : Int) <= 16
   ·have H16:=qh h16
    go_wp2_with fail
    all_goals go_ret
    all_goals refine ⟨ret_bool ?_,hE.out.1⟩
    all_goals (
     have hm:=HM2.out
     have h17 : s.length <= 16:=by have:=H16.out; omega
     unfold goodN
     rw [HS.out,decide_eq_true h17])
    all_goals clear hz
    all_goals simp_all
   ·have H16:=qh h16
    go_wp2_with fail
    all_goals go_ret
    all_goals refine ⟨ret_bool ?_,hE.out.1⟩
    all_goals (
     have hm:=HM2.out
     have h17 : ¬ s.length <= 16:=by have:=H16.out; omega
     unfold goodN)
    all_goals simp [h17]
theorem Ss.news {w : World} {a : Option Addr} {len cap : Nat} {ys : List (List UInt8)} (h : Ss w a len cap ys) :
  (a = none /\ len = 0 /\ ys = []) ∨ ∃ ad,a = some ad /\ ∀ j u,(ys.map sv)[j]? = some u -> w.cell? (ad.add j) = some u:=by
 obtain ⟨h1,h2,h3,h4⟩:=h
 rcases h4 with rfl | ⟨b,off,rfl,h5,h6⟩
 ·obtain rfl:=List.length_eq_zero_iff.1 h1
  cases a with
  | none => exact .inl ⟨rfl,rfl,rfl⟩
  | some ad => exact .inr ⟨ad,rfl,fun j u hu => by simp at hu⟩
 ·refine .inr ⟨_,rfl,fun j u hu => ?_⟩
  have hj : j < ys.length:=by
   rcases Nat.lt_or_ge j ys.length with h | h
   ·exact h
   ·rw [List.getElem?_eq_none (by simpa using h)] at hu; cases hu
  have he : (⟨b,off,none⟩ : Addr).add j = ⟨b,off + j,none⟩:=by by_cases hi0 : j = 0 <;> simp [Addr.add,hi0]
  rw [he,h6 j hj,<- hu]
  simp [sv,hj]
theorem run_append_ss {w : World} (B : Nat) (v : Value) (xs : List (List UInt8)) (hown : OwnS w B v xs) (ad : Option Addr) (m c : Nat) (ys : List (List UInt8)) (hB : Ss w ad m c ys) (ty : TypeId)
  (hlen : xs.length + m <= 1000000) (hbase : B <= w.heap.size) :
  ∃ v' w',(Builtin.append_ #[31,31] ty #[v,.slice ad m c]).run Tryz.prog w = .ok v' w' /\ OwnS w' B v' (xs ++ ys) /\ w.grownBy w' v.ownBlock /\
   (v'.ownBlock = v.ownBlock ∨ v'.ownBlock = some w.heap.size):=by
 obtain ⟨i,hi,hz0,hz1,hz2⟩:=info_partsS infoTST
 have hm:=hB.1
 rcases hB.news with ⟨rfl,rfl,rfl⟩ | ⟨ad,rfl,hnews⟩
 ·have hrun:=run_append_none0 (P:=Tryz.prog) (w:=w) B 31 ty TST i 1 Tryz.underlying31 hi v _ c _ hown
  exact ⟨v,w,hrun,by simpa using hown,⟨rfl,rfl,rfl,Nat.le_refl _,fun _ _ _ => rfl⟩,.inl rfl⟩
 ·obtain ⟨v',w',h1,h2,h3,_,h5⟩:=run_append_own_at (P:=Tryz.prog) w B 31 ty TST i (.string ⟨#[]⟩) 1 16 Tryz.underlying31 hi hz0 hz1 hz2 rfl (by decide) v xs.length (xs.map sv) hown ad m c (ys.map sv) (by simp; omega) hnews (by
   intro u hu
   obtain ⟨y,_,rfl⟩:=List.mem_map.1 hu
   rfl) (by unfold maxLen; omega) (by omega) hbase
  exact ⟨v',w',h1,by subst hm; unfold OwnS; simpa using h2,h3,h5⟩
theorem wpList_append_ss {w : World} {ops : Array Oper} {rest : List Oper} {o : Oper} {a : Act} {Q : Exit -> Act -> World -> Prop} (hgd : o.guard = none) (s x : Operand)
  (ho : o.op = .call { callee:=.builtin .append,args:=#[s,x],argTypes:=#[31,31] })
  (B : Nat) (v : Value) (xs : List (List UInt8)) (hs : a.eval s = v) (hown : OwnS w B v xs)
  (ad : Option Addr) (m c : Nat) (ys : List (List UInt8)) (hx : a.eval x = .slice ad m c) (hB : Ss w ad m c ys)
  (hlen : xs.length + m <= 1000000) (hbase : B <= w.heap.size)
  (h : ∀ v' w',OwnS w' B v' (xs ++ ys) -> w.grownBy w' v.ownBlock -> (v'.ownBlock = v.ownBlock ∨ v'.ownBlock = some w.heap.size) -> wpList Tryz.prog ops Q rest (a.put o.dst v') w') : wpList Tryz.prog ops Q (o :: rest) a w:=by
 refine wpList_plain hgd fun _ hK => ?_
 obtain ⟨v',w',hr,h2,h3,h4⟩:=run_append_ss B v xs hown ad m c ys hB o.type hlen hbase
 unfold Oper.wp execOp
 simp only [ho,resolve,invoke,builtin,Sem.run_bind,Sem.run_pure,Result.andThen_ok,List.map_toArray,List.map_cons,List.map_nil,hs,hx,hr]
 exact hK _ _ (h v' w' h2 h3 h4)
theorem OwnS.of_row0 (w : World) (B : Nat) (hB : B <= w.heap.size) : OwnS (w.alloc (.cells #[] TST)) B (.slice (some ⟨w.heap.size,0,none⟩) 0 0) [] :=
 ⟨by simp,.inr ⟨w.heap.size,0,#[],rfl,hB,heap_alloc_new w _,by simp,by simp [maxLen],by simp,by simp⟩⟩
theorem sclone_any (a : Option Addr) (len cap : Nat) (xs : List (List UInt8)) (w : World) (h : Ss w a len cap xs) (hl : len <= 1000000) :
  Calls Tryz.prog 236 #[.slice a len cap] w fun e w' => ∃ v,e = .returned v /\ OwnS w' w.heap.size v xs /\ Below w.heap.size w w':=by
 have e1:=fun w => Lib.run_eql_slice_nil (P:=Tryz.prog) (w:=w)
 cases a with
 | none =>
  have h0 : len = 0:=by
   rcases h.2.2.2 with h0 | ⟨b,off,hh,_⟩
   ·exact h0
   ·cases hh
  subst h0
  obtain rfl:=List.length_eq_zero_iff.1 h.1
  go_enter Tryz.func236,Tryz.ntmps236
  go_wp2
  go_ret
  exact ⟨_,rfl,OwnS.nil _ _,Below.refl _ _⟩
 | some ad =>
  go_enter Tryz.func236,Tryz.ntmps236
  go_wp2_with (at_builtin; refine wpList_append_ss rfl _ _ rfl (w.heap.size) _ [] rfl (OwnS.of_row0 w w.heap.size (Nat.le_refl _)) (some ad) len cap xs rfl (h.alloc _) ?_ (by simp) ?_)
  ·simpa using hl
  intro v' w1 hown hg _
  have hE:=((Ext.refl w).alloc (.cells #[] TST)).grown hg (fun k hk => by simp [Value.ownBlock] at hk; omega)
  go_wp2_with fail
  go_ret
  exact ⟨_,rfl,by simpa using hown,hE.1⟩
theorem fine1_any (s : List UInt8) (hs : s.length <= 1000000) (w : World) : Calls Tryz.prog 234 #[.string (strOf s)] w fun e w' => e = .returned (.bool (!goodN s)) /\ Below w.heap.size w w':=by
 have HG:=qh (good_any s hs w)
 go_enter Tryz.func234,Tryz.ntmps234
 go_wp2_with fail
 refine HG.out.mono ?_
 rintro e w1 ⟨rfl,hb⟩
 go_wp2_with fail
 go_ret
 exact ⟨rfl,hb⟩
def badAt (ls : List (List UInt8)) : Int:=match ls.findIdx? (fun s => !goodN s) with | some i => (i : Int) | none => -1
theorem badAt_iff (ls : List (List UInt8)) : decide (badAt ls ≥ 0) = ls.any (fun s => !goodN s):=by
 unfold badAt
 cases h : ls.findIdx? (fun s => !goodN s) with
 | none =>
  rw [List.findIdx?_eq_none_iff] at h
  simp
  exact fun s hs => by have:=h s hs; simpa using this
 | some i =>
  rw [List.findIdx?_eq_some_iff_getElem] at h
  obtain ⟨hi,h1,_⟩:=h
  simp
  exact ⟨_,List.getElem_mem hi,by simpa using h1⟩
theorem pidx_any (na : Option Addr) (nl nc : Nat) (ls : List (List UInt8)) (w : World) (h : Ss w na nl nc ls) (hm : ∀ s ∈ ls,s.length <= 1000000) : Calls Tryz.prog 266 #[.slice na nl nc,.func (.func 234) #[] #[]] w fun e w' => e = .returned (.int .i64 (badAt ls)) /\ Below w.heap.size w w':=by
 have hxl:=h.1
 have hcap:=h.2.1
 have hmx : nc <= 9223372036854775807:=Nat.le_trans h.2.2.1 (by unfold maxLen; decide)
 have HS:=qh h
 have HM:=qh hm
 clear h hm
 go_enter Tryz.func266,Tryz.ntmps266
 go_wp2_with fail
 go_loopw [8] (fun i wr => ∃ k : Nat,k <= nl /\ i = .int .i64 k /\ (∀ j (hj : j < ls.length),j < k -> goodN ls[j] = true) /\ Ext w.heap.size w wr) (fun i _ => nl - (intOf i).toNat)
 case atStart => exact ⟨0,by omega,rfl,by omega,Ext.refl w⟩
 case round =>
  obtain ⟨k,hk,rfl,hle,hE⟩:=hrel
  by_cases hlt : k < nl
  ·obtain ⟨p,o1,rfl,hp,hc1⟩:=HS.out.at (by omega)
   have c1:=(hE.1.cell (p:=⟨p,o1 + k,none⟩) hp).trans (hc1 k (by omega))
   have hk0 : (0 : Int) <= (k : Int):=by omega
   have hkl : (k : Int) < (nl : Int):=by omega
   have hkn : k < ls.length:=by omega
   have HK:=qh (fun (hx : goodN ls[k] = true) j (hj : j < ls.length) (hjk : j < k + 1) => show goodN ls[j] = true from by
    rcases Nat.lt_or_ge j k with h | h
    ·exact hle j hj h
    ·obtain rfl : j = k:=by omega
     exact hx)
   have hf : goodN ls[k] = false -> badAt ls = (k : Int):=fun hx => by
    unfold badAt
    have : ls.findIdx? (fun s => !goodN s) = some k:=by
     rw [List.findIdx?_eq_some_iff_getElem]
     exact ⟨hkn,by simpa using hx,fun j hj => by have:=hle j (by omega) hj; simpa using this⟩
    rw [this]
   have HF:=qh hf
   have HL:=qh (HM.out _ (List.getElem_mem hkn))
   clear hf
   generalize ls[k] = s at *
   clear hc1 hle
   go_wp2_with fail
   refine (fine1_any s HL.out _).mono ?_
   rintro e w1 ⟨rfl,hb⟩
   have hE1:=qh (hE.step hb)
   clear hb hE
   cases hx : goodN s with
   | false =>
    have HX:=qh hx
    clear hx
    go_wp2_with fail
    go_ret
    exact ⟨ret_int (HF.out HX.out).symm,hE1.out.1⟩
   | true =>
    have HX:=qh hx
    clear hx
    go_wp2_with fail
    go_roundw
    case rel => exact ⟨k + 1,by omega,by go_num,HK.out HX.out,hE1.out⟩
    case measure => simp [intOf]; omega
  ·obtain rfl : k = nl:=by omega
   have hno : badAt ls = -1:=by
    unfold badAt
    have : ls.findIdx? (fun s => !goodN s) = none:=by
     rw [List.findIdx?_eq_none_iff]
     intro s hs
     obtain ⟨j,hj,rfl⟩:=List.getElem_of_mem hs
     have:=hle j hj (by omega)
     simpa using this
    rw [this]
   have HN:=qh hno
   clear hno hle
   go_wp2_with fail
   go_ret
   exact ⟨ret_int HN.out.symm,hE.1⟩
theorem pcontains_any (na : Option Addr) (nl nc : Nat) (ls : List (List UInt8)) (w : World) (h : Ss w na nl nc ls) (hm : ∀ s ∈ ls,s.length <= 1000000) :
  Calls Tryz.prog 233 #[.slice na nl nc,.func (.func 234) #[] #[]] w fun e w' => e = .returned (.bool (ls.any (fun s => !goodN s))) /\ Below w.heap.size w w':=by
 have hl:=badAt_iff ls
 generalize ls.any (fun s => !goodN s) = b at *
 have HL:=qh hl
 have HI:=qh (fun w h => pidx_any na nl nc ls w h hm)
 generalize badAt ls = l at *
 clear hl
 go_enter Tryz.func233,Tryz.ntmps233
 go_wp2_with fail
 refine (HI.out _ h).mono ?_
 rintro e w1 ⟨rfl,hb⟩
 go_wp2_with fail
 go_ret
 exact ⟨ret_bool HL.out,hb⟩
theorem pfine_any (na : Option Addr) (nl nc : Nat) (ls : List (List UInt8)) (w : World) (h : Ss w na nl nc ls) (hm : ∀ s ∈ ls,s.length <= 1000000) :
  Calls Tryz.prog 185 #[.slice na nl nc] w fun e w' => e = .returned (.int .i64 (fineP ls : Int)) /\ Below w.heap.size w w':=by
 have hnl:=h.1
 have HC:=qh (pcontains_any na nl nc ls w h hm)
 have hf : fineP ls = if ls.any (fun s => !goodN s) = true then 12 else if 8 < nl then 3 else 0:=by rw [<- hnl]; rfl
 have HF:=qh hf
 clear hf h hm
 generalize ls.any (fun s => !goodN s) = b at *
 generalize fineP ls = f at *
 cases b with
 | true =>
  go_enter Tryz.func185,Tryz.ntmps185
  go_wp2_with fail
  refine HC.out.mono ?_
  rintro e w1 ⟨rfl,hb⟩
  go_wp2_with fail
  go_ret
  exact ⟨ret_int (by rw [HF.out]; rfl),hb⟩
 | false =>
  by_cases h8 : 8 < nl
  ·have h8' : (8 : Int) < (nl : Int):=by omega
   go_enter Tryz.func185,Tryz.ntmps185
   go_wp2_with fail
   refine HC.out.mono ?_
   rintro e w1 ⟨rfl,hb⟩
   go_wp2_with fail
   go_ret
   exact ⟨ret_int (by rw [HF.out,if_neg (by simp),if_pos h8]; rfl),hb⟩
  ·have h8' : ¬ (8 : Int) < (nl : Int):=by omega
   go_enter Tryz.func185,Tryz.ntmps185
   go_wp2_with fail
   refine HC.out.mono ?_
   rintro e w1 ⟨rfl,hb⟩
   go_wp2_with fail
   go_ret
   exact ⟨ret_int (by rw [HF.out,if_neg (by simp),if_neg h8]; rfl),hb⟩
theorem parent_nil (w : World) (c : Nat) (a : Option Addr) : Calls Tryz.prog 186 #[.slice a 0 c] w fun e w' => e = .returned (.tuple #[.slice none 0 0,.string ⟨#[]⟩,.int .i64 1]) /\ w = w':=by
 go_enter Tryz.func186,Tryz.ntmps186
 go_wp2_with fail
 go_ret3
 exact ⟨rfl,rfl⟩
theorem Ss.drew {w : World} {a : Option Addr} {len cap : Nat} {ls : List (List UInt8)} (h : Ss w a len cap ls) : Ss w.drew a len cap ls:=h.below (Below.refl _ _).drew
theorem parent_any (a : Option Addr) (n c : Nat) (ls : List (List UInt8)) (s : List UInt8) (w : World) (h : Ss w a (n + 1) c (ls ++ [s])) (hn : n <= 100000) :
  Calls Tryz.prog 186 #[.slice a ((n + 1 : Nat)) c] w fun e w' => ∃ v,e = .returned (.tuple #[v,.string (strOf s),.int .i64 0]) /\ OwnS w' w.heap.size v ls /\ Below w.heap.size w w':=by
 have hl : ls.length = n:=by have:=h.1; simp at this; omega
 obtain ⟨b,off,rfl,hb,hc⟩:=h.at (by omega)
 have hcell:=hc n (by simp [hl])
 have e0 : (ls ++ [s])[n]'(by simp [hl]) = s:=by simp [<- hl]
 rw [e0] at hcell
 have hk:=h.take (k:=n) (by omega)
 rw [List.take_left' hl] at hk
 have hcap:=h.2.1
 have HT:=qh (fun w' (hb : Below w.heap.size w w') => sclone_any _ n c ls w' (hk.below hb) (by omega))
 obtain ⟨N,hN⟩:=qnm (n + 1)
 rw [<- hN] at hcap ⊢
 have e1 : IntKind.i64.wrap ((N : Int) - 1) = (n : Int):=by rw [IntWalk.i64_in _ (by omega)]; omega
 have e2 : n <= c:=by omega
 have e3 : ¬ (N : Int) = 0:=by omega
 have e3b : ((N : Int) == 0) = false:=by simp; omega
 have e4 : (0 : Int) <= (n : Int):=by omega
 have e5 : (n : Int) < (N : Int):=by omega
 have HN:=qh hN
 clear hk hc e0 h hN
 go_enter Tryz.func186,Tryz.ntmps186
 go_upto_region 3 with fail
 have hE0:=(Ext.refl w).drew
 go_region_held3 (fun w' => w'.cell? ⟨b,off + n,none⟩ = some (.string (strOf s))) (go_keep) ((first
  | (go_at_call 236; refine (HT.out _ (Below.refl _ w).drew).mono ?_; rintro e w2 ⟨v2,rfl,ho2,hb2⟩; have hE2:=hE0.step hb2; have g0:=hE2.cel hb hcell)))
 all_goals (go_wp2_with fail; go_ret3; exact ⟨_,rfl,ho2,hE2.1⟩)
end
end Go.Proofs.YtabdcphioccgnaaGreatDoor
