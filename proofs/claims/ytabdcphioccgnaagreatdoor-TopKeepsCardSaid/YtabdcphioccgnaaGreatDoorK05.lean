/- ShaWrite. -/
import Derived.Deep.AppendLies
import Derived.Test.YtabdcphioccgnaaGreatDoorK04
set_option maxRecDepth 100000
set_option maxHeartbeats 8000000
namespace Go.Proofs.YtabdcphioccgnaaGreatDoor
section
open Go.RowKit
def SS (p : Nat) (g : Option Nat) (k : Nat) : Prop:=k = p ∨ g = some k
def SPost (w : World) (B p : Nat) (g : Option Nat) (xs : List UInt8) (w' : World) : Prop :=
 ∃ g',Strm w' B p g' xs /\ Chg (SS p g) w w' /\ (g' = g ∨ ∃ k,g' = some k /\ w.heap.size <= k)
theorem Strm.lt {w : World} {B p : Nat} {g : Option Nat} {xs : List UInt8} (h : Strm w B p g xs) : p < w.heap.size:=by
 obtain ⟨_,v,h1,_⟩:=h
 exact h1.lt
theorem Strm.row_lt {w : World} {B p g : Nat} {xs : List UInt8} (h : Strm w B p (some g) xs) : g < w.heap.size /\ B <= g:=by
 obtain ⟨_,v,_,h2,h3,_⟩:=h
 have:=World.ownsRow.lt h2 g h3
 exact ⟨this.2,this.1⟩
theorem Strm.belowOf {w w' : World} {B p : Nat} {g : Option Nat} {xs : List UInt8} (h : Strm w B p g xs) (hc : Chg (SS p g) w w') : Below B w w':=by
 refine hc.below (by have:=h.lt; have:=h.1; omega) (fun k _ hs => ?_)
 rcases hs with rfl | rfl
 ·exact h.1
 ·exact h.row_lt.2
def Sb (w : World) (p : Nat) (l : List UInt32) (v : Value) (n : Nat) : Prop:=SB w p TSm [] l (KK.map uv ++ [v,.int .i64 (n : Int)])
theorem KK_length : KK.length = 64:=rfl
theorem Sb.c72 {w : World} {p : Nat} {l : List UInt32} {v : Value} {n : Nat} (h : Sb w p l v n) (hl : l.length = 8) : w.cell? ⟨p,72,none⟩ = some v:=by
 unfold Sb SB at h
 simp only [World.cell?,h]
 rw [List.getElem?_toArray,List.nil_append,List.getElem?_append_right (by simp [hl]),List.getElem?_append_right (by simp [hl,KK_length])]
 simp [hl,KK_length]
theorem Sb.c73 {w : World} {p : Nat} {l : List UInt32} {v : Value} {n : Nat} (h : Sb w p l v n) (hl : l.length = 8) : w.cell? ⟨p,73,none⟩ = some (.int .i64 (n : Int)):=by
 unfold Sb SB at h
 simp only [World.cell?,h]
 rw [List.getElem?_toArray,List.nil_append,List.getElem?_append_right (by simp [hl]),List.getElem?_append_right (by simp [hl,KK_length])]
 simp [hl,KK_length]
theorem Sb.cK {w : World} {p : Nat} {l : List UInt32} {v : Value} {n : Nat} (h : Sb w p l v n) (hl : l.length = 8) (i : Nat) (hi : i < 64) : w.cell? ⟨p,8 + i,none⟩ = some (.int .u32 (wd (KK.getD i 0))):=by
 unfold Sb SB at h
 simp only [World.cell?,h]
 rw [List.getElem?_toArray,List.nil_append,List.getElem?_append_right (by simp [hl]),List.getElem?_append_left (by simp [hl,KK_length]; omega)]
 rw [List.length_map,hl,Nat.add_sub_cancel_left,List.getElem?_map,List.getElem?_eq_getElem (by rw [KK_length]; exact hi),List.getD_eq_getElem?_getD,List.getElem?_eq_getElem (by rw [KK_length]; exact hi)]
 rfl
theorem Sb.s72 {w : World} {p : Nat} {l : List UInt32} {v : Value} {n : Nat} (h : Sb w p l v n) (hl : l.length = 8) (v' : Value) : Sb (w.setCell ⟨p,72,none⟩ v') p l v' n:=by
 unfold Sb SB at *
 rw [cells_set h]
 congr 2
 rw [List.setIfInBounds_toArray,List.nil_append,List.set_append_right _ _ (by simp [hl]),List.set_append_right _ _ (by simp [hl,KK_length])]
 simp [hl,KK_length]
theorem Sb.s73 {w : World} {p : Nat} {l : List UInt32} {v : Value} {n : Nat} (h : Sb w p l v n) (hl : l.length = 8) (n' : Nat) : Sb (w.setCell ⟨p,73,none⟩ (.int .i64 (n' : Int))) p l v n':=by
 unfold Sb SB at *
 rw [cells_set h]
 congr 2
 rw [List.setIfInBounds_toArray,List.nil_append,List.set_append_right _ _ (by simp [hl]),List.set_append_right _ _ (by simp [hl,KK_length])]
 simp [hl,KK_length]
theorem S8.list_length (s : S8) : s.list.length = 8:=rfl
theorem turn_st (p : Nat) (s : S8) (v : Value) (n b off len cap : Nat) (xs : List UInt8) (w : World) (h : Sb w p s.list v n) (hB : Bs w (some ⟨b,off,none⟩) len cap xs) (h64 : 64 <= len) :
  Calls Tryz.prog 257 #[.pointer (some ⟨p,0,none⟩),.slice (some ⟨b,off,none⟩) len cap,.pointer (some ⟨p,8,none⟩)] w fun e w' => e = .returned (.tuple #[]) /\ Sb w' p (comp s xs).list v n /\ Chg (fun k => k = p) w w' :=
 turn_any p TSm [] _ s p 8 b off len cap xs w h (h.cK (S8.list_length s)) hB h64
theorem hashed_block (xs zs : List UInt8) (h : held xs = []) (hz : zs.length = 64) : hashed (xs ++ zs) = comp (hashed xs) zs /\ held (xs ++ zs) = []:=by
 have:=hashed_fill xs zs (by rw [h]; simpa using hz)
 rwa [h,List.nil_append] at this
theorem SPost.mk' {w W : World} {B p : Nat} {g g' : Option Nat} {xs : List UInt8} {v : Value} (hB : B <= p) (h : Sb W p (hashed xs).list v xs.length) (ho : Own W B v (held xs)) (hg : v.ownBlock = g') (hp : g' ≠ some p) (hc : Chg (SS p g) w W)
  (hgg : g' = g ∨ ∃ k,g' = some k /\ w.heap.size <= k) : SPost w B p g xs W:=⟨g',⟨hB,v,h,ho,hg,hp⟩,hc,hgg⟩
theorem ownsRow_setc {w : World} {B n size : Nat} {e : TypeId} {v : Value} {xs : List Value} (h : w.ownsRow B e size v n xs) (p : Addr) (u : Value) (hp : v.ownBlock ≠ some p.block) : (w.setCell p u).ownsRow B e size v n xs :=
 h.kept (row:=some p.block) ⟨rfl,rfl,rfl,by simp [World.setCell],fun k _ hk => Below.heap_setCell _ _ _ _ (fun e => hk (by rw [e]))⟩ (.inr hp)
theorem Bs.chg {S : Nat -> Prop} {w w' : World} {a : Option Addr} {len cap : Nat} {xs : List UInt8} (hb : Bs w a len cap xs) (h : Chg S w w') (hs : 0 < len -> ∀ ad,a = some ad -> ¬ S ad.block) : Bs w' a len cap xs:=by
 by_cases h0 : len = 0
 ·exact ⟨hb.1,hb.2.1,hb.2.2.1,.inl h0⟩
 ·exact h.bs hb (hs (by omega))
theorem Bs.off {w : World} {b off len cap : Nat} {xs : List UInt8} (h : Bs w (some ⟨b,off,none⟩) len cap xs) {k : Nat} (hk : k <= len) : Bs w (some ⟨b,off + k,none⟩) (len - k) (cap - k) (xs.drop k):=by
 obtain ⟨h1,h2,h3,h4⟩:=h
 refine ⟨by simp; omega,by omega,by omega,?_⟩
 rcases h4 with h4 | ⟨b',off',h4,h5,h6⟩
 ·exact .inl (by omega)
 ·injection h4 with h4; injection h4 with e1 e2; subst e1 e2
  exact .inr ⟨b,off + k,rfl,h5,fun i hi => by simp at hi; rw [Nat.add_assoc,h6 (k + i) (by omega)]; simp⟩
def Mid (w : World) (B p : Nat) (g : Option Nat) (xs ys : List UInt8) (N1 len b cap o k : Nat) (wr : World) : Prop :=
 k <= len /\ Bs wr (some ⟨b,o,none⟩) (len - k) (cap - k) (ys.drop k) /\ held (xs ++ ys.take k) = [] /\
 ∃ v,Sb wr p (hashed (xs ++ ys.take k)).list v N1 /\ Own wr B v [] /\ v.ownBlock ≠ some p /\ Chg (SS p g) w wr /\ (v.ownBlock = g ∨ ∃ q,v.ownBlock = some q /\ w.heap.size <= q)
theorem Own.cut0 {w : World} {B : Nat} {a : Option Addr} {n c : Nat} {xs : List UInt8} (h : Own w B (.slice a n c) xs) : Own w B (.slice a 0 c) []:=by
 rcases h.parts with ⟨h1,_⟩ | ⟨g,cap,h1,h2,cur,h3,h4,h5,h6,h7⟩
 ·injection h1 with e1 e2 e3; subst e1 e3; exact Own.nil _ _
 ·injection h1 with e1 e2 e3; subst e1 e3
  exact Own.of_row (xs:=[]) ⟨cur,h3,h4,Nat.zero_le _,h6,rfl⟩ h2
def lenOfS : Value -> Nat
 | .slice _ n _ => n
 | _ => 0
theorem Own.step_drew {w : World} {B : Nat} {v : Value} {xs : List UInt8} (h : Own w B v xs) : Own w.drew B v xs:=h.below (Below.refl _ _).drew
theorem Bs.none_left {w : World} {a : Option Addr} {len cap : Nat} {xs : List UInt8} (h : Bs w a len cap xs) (a' : Option Addr) {k : Nat} (hk : len <= k) (hk2 : k <= cap) : Bs w a' (len - k) (cap - k) (xs.drop k) :=
 ⟨by rw [List.length_drop,h.1],by omega,by have:=h.2.2.1; omega,.inl (by omega)⟩
theorem take_add_drop (ys : List UInt8) (k m : Nat) : ys.take (k + m) = ys.take k ++ (ys.drop k).take m:=by rw [List.take_add]
theorem Mid.turned {w wr w' : World} {B p : Nat} {g : Option Nat} {xs ys : List UInt8} {N1 len b cap o' k : Nat} {v : Value} {s : S8} (h1 : k <= len) (h64 : 64 <= len - k) (hB : Bs w' (some ⟨b,o',none⟩) (len - k - 64) (cap - k - 64) ((ys.drop k).drop 64)) (hyl : ys.length = len) (hh : held (xs ++ ys.take k) = [])
  (ho : Own wr B v []) (hvp : v.ownBlock ≠ some p) (hc : Chg (SS p g) w wr) (hvg : v.ownBlock = g ∨ ∃ q,v.ownBlock = some q /\ w.heap.size <= q)
  (hs : s = comp (hashed (xs ++ ys.take k)) ((ys.drop k).take 64)) (hS : Sb w' p s.list v N1) (hC : Chg (fun q => q = p) wr w') : Mid w B p g xs ys N1 len b cap o' (k + 64) w':=by
 have hz : ((ys.drop k).take 64).length = 64:=by rw [List.length_take,List.length_drop]; omega
 obtain ⟨e1,e2⟩:=hashed_block _ _ hh hz
 have e3 : xs ++ ys.take (k + 64) = xs ++ ys.take k ++ (ys.drop k).take 64:=by rw [take_add_drop,List.append_assoc]
 refine ⟨by omega,?_,by rw [e3]; exact e2,v,?_,hC.own ho (fun q hq e => hvp (by rw [hq,e])),hvp,?_,hvg⟩
 ·rw [List.drop_drop] at hB
  rw [show len - (k + 64) = len - k - 64 by omega,show cap - (k + 64) = cap - k - 64 by omega]
  exact hB
 ·rw [e3,e1,<- hs]; exact hS
 ·exact hc.trans hC (fun i _ h => .inl h)
theorem shawrite_some (B p : Nat) (g : Option Nat) (xs : List UInt8) (b off len cap : Nat) (ys : List UInt8) (w : World) (h : Strm w B p g xs) (hy : Bs w (some ⟨b,off,none⟩) len cap ys) (hya : ¬ SS p g b) (hl : xs.length + len <= 1000000) :
  Calls Tryz.prog 218 #[.pointer (some ⟨p,0,none⟩),.slice (some ⟨b,off,none⟩) len cap] w fun e w' => e = .returned (.tuple #[]) /\ SPost w B p g (xs ++ ys) w':=by
 obtain ⟨hBp,v,hS,hO,hvg,hgp⟩:=h
 have hS : Sb w p (hashed xs).list v xs.length:=hS
 obtain ⟨r,hr⟩:=qnm ((held xs).length)
 obtain ⟨av,cv,rfl,hBv⟩:=hO.bsn hr.symm
 have hyc:=hy.2.1
 have hcm:=hy.2.2.1
 unfold maxLen at hcm
 obtain ⟨n0,hn0⟩:=qnm xs.length
 rw [<- hn0] at hS hl
 obtain ⟨N1,hN1⟩:=qnm (n0 + len)
 have hr64 : r < 64:=by rw [hr,held_length]; omega
 have hS1:=hS.s73 (S8.list_length _) N1
 have c73:=hS.c73 (S8.list_length _)
 have f73:=SB.frozen hS 73
 have hp:=SB.lt hS
 have hC1:=(Chg.refl (SS p g) w).setCell (p:=⟨p,73,none⟩) (fun _ => .inl rfl) (.int .i64 (N1 : Int))
 have hcs : Chg (fun k => k = p) w (w.setCell ⟨p,73,none⟩ (.int .i64 (N1 : Int))):=Chg.setCell (S:=fun k => k = p) (p:=⟨p,73,none⟩) (Chg.refl _ w) (fun _ => rfl) _
 have hO1:=hcs.own hO (fun k hk e => hgp (by rw [<- hvg,hk,e]))
 have hY1:=hcs.bs hy (fun ad had e => by cases had; exact hya (.inl e))
 have HR:=qh (aI hr (aI hn0 hN1))
 have hw : (n0 : Int) + (len : Int) = (N1 : Int):=by omega
 have HVG:=qh hvg
 have HN1:=qh (show N1 = xs.length + len from by rw [hN1,hn0])
 clear hr hn0 hN1 hO hBv hy hcs hS hvg
 go_enter Tryz.func218,Tryz.ntmps218
 go_upto_region 1 with fail
 clear c73 f73 hw
 generalize w.setCell ⟨p,73,none⟩ (.int .i64 (N1 : Int)) = w1 at *
 have c72:=hS1.c72 (S8.list_length _)
 have f72:=SB.frozen hS1 72
 go_upto_if 19 with fail
 go_cut [1] (fun s1 wr => ∃ o k,s1 = .slice (some ⟨b,o,none⟩) (len - k) (cap - k) /\ Mid w B p g xs ys N1 len b cap o k wr)
 case first =>
  by_cases hr0 : 0 < r
  ·by_cases hfew : r + len < 64
   ·have hm : min len (64 - r) = len:=by omega
    go_upto_region 3 with fail
    have hhl : (held xs).length = r:=HR.out.1.symm
    have hL : (held xs).length + len <= 140737488355328:=by rw [hhl]; omega
    have hBw1 : B <= w1.heap.size:=by have:=hC1.size; omega
    have hpw1 : p < w1.heap.size:=SB.lt hS1
    have hgv : some p ≠ (Value.slice av r cv).ownBlock:=fun e => hgp (by rw [<- HVG.out,<- e])
    have q1 : (0 : Int) <= (len : Int):=by omega
    have q2 : (len : Int) <= (cap : Int):=by omega
    have HLN : Hid ((held xs ++ ys).length = r + len):=qh (by rw [List.length_append,hhl,hY1.1])
    have HFAR : Hid (∀ w2,w1.drew.grownBy w2 (Value.slice av r cv).ownBlock -> w2.cell? ⟨p,72,none⟩ = some (.slice av r cv) /\ w2.frozen? ⟨p,72,none⟩ = false) :=
     qh fun w2 h2 => ⟨(World.grownBy.cell_far h2 ⟨p,72,none⟩ hpw1 hgv).trans c72,(World.grownBy.frozen_far h2 ⟨p,72,none⟩ hpw1 hgv).trans f72⟩
    clear hm
    go_upto_region 3 with fail
    go_region_law (have hX1:=hO1.below (Below.refl _ _).drew; have hX2:=hY1.below (Below.refl _ _).drew; refine step_append_at rfl (.tmp 33) (.tmp 36) rfl B _ (held xs) ?_ hX1 _ len _ ys ?_ hX2 hL hBw1 (fun v' w2 h1 h2 h3 => ?_); (rfl); (rfl); obtain ⟨k1,k2⟩:=HFAR.out w2 h2; obtain ⟨a2,c2,rfl,hb2⟩:=Own.bsn h1 HLN.out)
    have hS2 : Sb w2 p (hashed xs).list (.slice av r cv) N1:=(h2.block p hpw1 hgv).trans hS1
    have hS3:=hS2.s72 (S8.list_length _) (.slice a2 (r + len) c2)
    have hC2 : Chg (SS p g) w w2:=hC1.trans (S':=fun q => g = some q) ((Chg.refl _ w1).drew.grown h2 (fun q _ hq => by rw [<- HVG.out]; exact hq)) (fun i _ h => .inr h)
    have hC3:=hC2.setCell (p:=⟨p,72,none⟩) (fun _ => .inl rfl) (.slice a2 (r + len) c2)
    have hgp2 : (Value.slice a2 (r + len) c2).ownBlock ≠ some p:=by
     rcases h3 with h3 | h3
     ·rw [h3,HVG.out]; exact hgp
     ·rw [h3]; intro e; injection e with e; rw [<- e] at hpw1; exact Nat.lt_irrefl _ hpw1
    have hO3 : Own (w2.setCell ⟨p,72,none⟩ (.slice a2 (r + len) c2)) B (.slice a2 (r + len) c2) (held xs ++ ys):=ownsRow_setc h1 _ _ hgp2
    have HG3 : Hid ((Value.slice a2 (r + len) c2).ownBlock = g ∨ ∃ q,(Value.slice a2 (r + len) c2).ownBlock = some q /\ w.heap.size <= q):=by
     refine qh ?_
     rcases h3 with h3 | h3
     ·exact .inl (h3.trans HVG.out)
     ·exact .inr ⟨_,h3,hC1.size⟩
    have HP : Hid (hashed (xs ++ ys) = hashed xs /\ held (xs ++ ys) = held xs ++ ys):=qh (hashed_few xs ys (by rw [hhl,hY1.1]; exact hfew))
    have HN : Hid (N1 = (xs ++ ys).length):=qh (by rw [List.length_append,hY1.1,HR.out.2.2,HR.out.2.1])
    clear h1 h2 h3 k1 k2 hb2 hS1 hS2 hC1 hC2 hO1 hY1 hhl hL hBw1 hpw1 hgv c72 f72
    have c72:=hS3.c72 (S8.list_length _)
    have HS3:=qh hS3
    rw [HN.out,<- HP.out.1] at hS3
    rw [<- HP.out.2] at hO3
    have hP:=SPost.mk' hBp hS3 hO3 rfl hgp2 hC3 HG3.out
    clear hS3
    have hS3:=HS3.out
    go_wp2_with fail
    all_goals
     refine bodyPost_ret (v:=.tuple #[]) (by simp [results,Tryz.results218,go_sem]) rfl ⟨rfl,hP⟩
   ·obtain ⟨D,hD⟩:=qnm (64 - r)
    have hDl : D <= len:=by omega
    have hDi : 64 - (r : Int) = (D : Int):=by omega
    have hmin : (if D < len then (D : Int) else (len : Int)) = (D : Int):=by split <;> omega
    have hhl : (held xs).length = r:=HR.out.1.symm
    have hL : (held xs).length + D <= 140737488355328:=by rw [hhl]; omega
    have hBw1 : B <= w1.heap.size:=by have:=hC1.size; omega
    have hpw1 : p < w1.heap.size:=SB.lt hS1
    have hgv : some p ≠ (Value.slice av r cv).ownBlock:=fun e => hgp (by rw [<- HVG.out,<- e])
    have q1 : (0 : Int) <= (D : Int):=by omega
    have q2 : (D : Int) <= (cap : Int):=by omega
    have q3 : (D : Int) <= (len : Int):=by omega
    have hYD:=hY1.take hDl
    have HLN : Hid ((held xs ++ ys.take D).length = 64):=qh (by rw [List.length_append,hhl,hYD.1]; omega)
    have HFAR : Hid (∀ w2,w1.drew.grownBy w2 (Value.slice av r cv).ownBlock -> w2.cell? ⟨p,72,none⟩ = some (.slice av r cv) /\ w2.frozen? ⟨p,72,none⟩ = false) :=
     qh fun w2 h2 => ⟨(World.grownBy.cell_far h2 ⟨p,72,none⟩ hpw1 hgv).trans c72,(World.grownBy.frozen_far h2 ⟨p,72,none⟩ hpw1 hgv).trans f72⟩
    have HD:=qh hD
    clear hD
    go_upto_region 3 with fail
    go_region_law (have hX1:=hO1.below (Below.refl _ _).drew; have hX2:=hYD.below (Below.refl _ _).drew; refine step_append_at rfl (.tmp 33) (.tmp 36) rfl B _ (held xs) ?_ hX1 _ D _ (ys.take D) ?_ hX2 hL hBw1 (fun v' w2 h1 h2 h3 => ?_); (rfl); (rfl); obtain ⟨k1,k2⟩:=HFAR.out w2 h2; obtain ⟨a2,c2,rfl,hb2⟩:=Own.bsn h1 HLN.out)
    have hS2 : Sb w2 p (hashed xs).list (.slice av r cv) N1:=(h2.block p hpw1 hgv).trans hS1
    have hS3:=hS2.s72 (S8.list_length _) (.slice a2 64 c2)
    have hY2 : Bs w2 (some ⟨b,off,none⟩) len cap ys:=by
     refine ((Chg.refl (fun q => g = some q) w1).drew.grown h2 (fun q _ hq => by rw [<- HVG.out]; exact hq)).bs hY1 (fun ad had e => by cases had; exact hya (.inr e))
    have hC2 : Chg (SS p g) w w2:=hC1.trans (S':=fun q => g = some q) ((Chg.refl _ w1).drew.grown h2 (fun q _ hq => by rw [<- HVG.out]; exact hq)) (fun i _ h => .inr h)
    have hC3:=hC2.setCell (p:=⟨p,72,none⟩) (fun _ => .inl rfl) (.slice a2 64 c2)
    have hgp2 : (Value.slice a2 64 c2).ownBlock ≠ some p:=by
     rcases h3 with h3 | h3
     ·rw [h3,HVG.out]; exact hgp
     ·rw [h3]; intro e; injection e with e; rw [<- e] at hpw1; exact Nat.lt_irrefl _ hpw1
    have hO3 : Own (w2.setCell ⟨p,72,none⟩ (.slice a2 64 c2)) B (.slice a2 64 c2) (held xs ++ ys.take D):=ownsRow_setc h1 _ _ hgp2
    have hY3 : Bs (w2.setCell ⟨p,72,none⟩ (.slice a2 64 c2)) (some ⟨b,off,none⟩) len cap ys:=(Chg.setCell (S:=fun q => q = p) (p:=⟨p,72,none⟩) (Chg.refl _ w2) (fun _ => rfl) _).bs hY2 (fun ad had e => by cases had; exact hya (.inl e))
    have HG3 : Hid ((Value.slice a2 64 c2).ownBlock = g ∨ ∃ q,(Value.slice a2 64 c2).ownBlock = some q /\ w.heap.size <= q):=by
     refine qh ?_
     rcases h3 with h3 | h3
     ·exact .inl (h3.trans HVG.out)
     ·exact .inr ⟨_,h3,hC1.size⟩
    have HP : Hid (hashed (xs ++ ys.take D) = comp (hashed xs) (held xs ++ ys.take D) /\ held (xs ++ ys.take D) = []):=qh (hashed_fill xs (ys.take D) (by rw [<- List.length_append]; exact HLN.out))
    clear h1 h2 h3 k1 k2 hb2 hS1 hS2 hC1 hC2 hO1 hY1 hhl hL hBw1 hpw1 hgv c72 f72 hY2 hYD
    have c72:=hS3.c72 (S8.list_length _)
    have f72:=SB.frozen hS3 72
    go_upto_region 4 with fail
    generalize w2.setCell ⟨p,72,none⟩ (.slice a2 64 c2) = w3 at *
    obtain ⟨gr,hgr⟩ : ∃ gr,a2 = some ⟨gr,0,none⟩:=by
     rcases hO3.parts with ⟨e,_⟩ | ⟨gr,c,e,_⟩
     ·injection e with e1 e2 e3; cases e2
     ·injection e with e1; exact ⟨gr,e1⟩
    subst hgr
    obtain ⟨ax,cx,hx1,hx2⟩:=hO3.bsn HLN.out
    injection hx1 with e1 e2 e3
    subst e1 e3
    obtain ⟨o,hoi,hYo⟩ : ∃ o,(if cap = D then (some ⟨b,off,none⟩ : Option Addr) else some ⟨b,off + D,none⟩) = some ⟨b,o,none⟩ /\ ∀ W,Chg (fun q => q = p) w3 W -> Bs W (some ⟨b,o,none⟩) (len - D) (cap - D) (ys.drop D):=by
     by_cases hcD : cap = D
     ·exact ⟨off,by rw [if_pos hcD],fun W hC => (hY3.none_left _ (by omega) (by omega)).chg hC (fun h => by omega)⟩
     ·exact ⟨off + D,by rw [if_neg hcD],fun W hC => (hY3.off hDl).chg hC (fun _ ad had e => by cases had; exact hya (.inl e))⟩
    have HYO:=qh hYo
    clear hYo
    go_upto_region 6 with fail
    refine wp_tailb 10 (by kernel_rfl) (by kernel_rfl) rfl ?_
    simp only [List.take_succ_cons,List.take_zero,List.drop_succ_cons,List.drop_zero,List.map_cons,List.map_nil,bare]
    repeat still_step
    refine wpStill_nil ?_
    go_wp2_with fail
    refine (turn_st p (hashed xs) _ N1 gr 0 64 c2 _ _ hS3.drew hx2.drew (Nat.le_refl _)).mono ?_
    rintro e w4 ⟨rfl,hS4,hC4⟩
    have c72:=hS4.c72 (S8.list_length _)
    have f72:=SB.frozen hS4 72
    have hO4:=hC4.own hO3.step_drew (fun q hq e => hgp2 (by rw [hq,e]))
    have hS5:=hS4.s72 (S8.list_length _) (.slice (some ⟨gr,0,none⟩) 0 c2)
    have hC5 : Chg (fun q => q = p) w3 (w4.setCell ⟨p,72,none⟩ (.slice (some ⟨gr,0,none⟩) 0 c2)):=((Chg.refl _ w3).drew.trans hC4 (fun _ _ h => h)).setCell (fun _ => rfl) _
    have hO5 : Own (w4.setCell ⟨p,72,none⟩ (.slice (some ⟨gr,0,none⟩) 0 c2)) B (.slice (some ⟨gr,0,none⟩) 0 c2) []:=ownsRow_setc hO4.cut0 _ _ hgp2
    have hB5:=HYO.out _ hC5
    have hC6:=hC3.trans hC5 (fun i _ h => .inl h)
    clear hS3 hO3 hY3 hC3 hx2 hS4 hC4 hO4 hC5
    go_wp2_with fail
    go_meet
    rw [<- HP.out.1] at hS5
    exact ⟨o,D,rfl,hDl,hB5,HP.out.2,_,hS5,hO5,hgp2,hC6,HG3.out⟩
  ·go_wp2_with fail
   go_meet
   have hnil : held xs = []:=List.eq_nil_of_length_eq_zero (by rw [<- HR.out.1]; omega)
   rw [hnil] at hO1
   refine ⟨off,0,rfl,by omega,?_,?_,_,?_,hO1,?_,hC1,.inl HVG.out⟩
   ·simpa using hY1
   ·rw [List.take_zero,List.append_nil]; exact hnil
   ·rw [List.take_zero,List.append_nil]; exact hS1
   ·rw [HVG.out]; exact hgp
 case rest =>
  obtain ⟨o,k,rfl,hM⟩:=hcut
  have hyl : ys.length = len:=hY1.1
  have HYL:=qh hyl
  clear hS1 hC1 hO1 hY1 c72 f72 HR HVG hyl
  go_upto_block 0 with fail
  go_cut [1] (fun s1 wr => ∃ o k,s1 = .slice (some ⟨b,o,none⟩) (len - k) (cap - k) /\ Mid w B p g xs ys N1 len b cap o k wr /\ len - k < 64)
  case first =>
   go_wp2_with fail
   go_loopw [1] (fun s1 wr => ∃ o k,s1 = .slice (some ⟨b,o,none⟩) (len - k) (cap - k) /\ Mid w B p g xs ys N1 len b cap o k wr) (fun s1 _ => lenOfS s1)
   case atStart => exact ⟨o,k,rfl,hM⟩
   case round =>
    obtain ⟨o,k,rfl,hM⟩:=hrel
    by_cases h64 : 64 <= len - k
    ·obtain ⟨hk,hB,hh,v,hS,ho,hvp,hc,hvg⟩:=hM
     have c1 : (64 : Int) <= ((len - k : Nat) : Int):=by omega
     have c2 : (64 : Int) <= ((cap - k : Nat) : Int):=by omega
     have hBt:=hB.take (k:=64) h64
     obtain ⟨o2,hoi,hYo⟩ : ∃ o2,(if cap - k = 64 then (some ⟨b,o,none⟩ : Option Addr) else some ⟨b,o + 64,none⟩) = some ⟨b,o2,none⟩ /\ ∀ W,Chg (fun q => q = p) wr W -> Bs W (some ⟨b,o2,none⟩) (len - k - 64) (cap - k - 64) ((ys.drop k).drop 64):=by
      by_cases hcD : cap - k = 64
      ·exact ⟨o,by rw [if_pos hcD],fun W hC => (hB.none_left _ (by omega) (by omega)).chg hC (fun h => by omega)⟩
      ·exact ⟨o + 64,by rw [if_neg hcD],fun W hC => (hB.off h64).chg hC (fun _ ad had e => by cases had; exact hya (.inl e))⟩
     have HYO:=qh hYo
     have HT:=qh (fun W hb => turn_st p (hashed (xs ++ ys.take k)) v N1 b o 64 (cap - k) ((ys.drop k).take 64) W (SB.below hS hb) (hBt.below hb) (Nat.le_refl _))
     have HM:=qh (fun (o' : Nat) (w' : World) h1 h2 h3 => Mid.turned (N1:=N1) (b:=b) (cap:=cap) (o':=o') (w':=w') (s:=comp (hashed (xs ++ ys.take k)) ((ys.drop k).take 64)) hk h64 h1 HYL.out hh ho hvp hc hvg rfl h2 h3)
     clear hYo hB hBt hh hS ho hvp hc hvg
     go_upto_region 9 with fail
     refine wp_tailb 8 (by kernel_rfl) (by kernel_rfl) rfl ?_
     simp only [List.take_succ_cons,List.take_zero,List.drop_succ_cons,List.drop_zero,List.map_cons,List.map_nil,bare]
     repeat still_step
     refine wpStill_nil ?_
     go_wp2_with fail
     refine (HT.out _ (Below.refl _ _).drew).mono ?_
     rintro e w4 ⟨rfl,hS4,hC4⟩
     have hC5:=(Chg.refl (fun q => q = p) wr).drew.trans hC4 (fun _ _ h => h)
     have hM5:=HM.out o2 w4 (HYO.out _ hC5) hS4 hC5
     clear hS4 hC4 hC5 HM HT HYO
     go_wp2_with fail
     go_roundw
     case rel => exact ⟨o2,k + 64,by rw [show len - (k + 64) = len - k - 64 by omega,show cap - (k + 64) = cap - k - 64 by omega],hM5⟩
     case measure => simp [lenOfS]; omega
    ·have h64' : ((len - k : Nat) : Int) < 64:=by omega
     go_wp2_with fail
     go_meet
     exact ⟨o,k,rfl,hM,by omega⟩
  case rest =>
   obtain ⟨o,k,rfl,⟨hk,hB,hh,v,hS,ho,hvp,hc,hvg⟩,h64⟩:=hcut
   obtain ⟨av,cv,rfl,_⟩:=ho.bsn (n:=0) rfl
   have c72:=hS.c72 (S8.list_length _)
   have f72:=SB.frozen hS 72
   have hpw : p < wc.heap.size:=SB.lt hS
   have hBw : B <= wc.heap.size:=by omega
   have HFAR : Hid (∀ w2,wc.grownBy w2 (Value.slice av 0 cv).ownBlock -> w2.cell? ⟨p,72,none⟩ = some (.slice av 0 cv) /\ w2.frozen? ⟨p,72,none⟩ = false) :=
    qh fun w2 h2 => ⟨(World.grownBy.cell_far h2 ⟨p,72,none⟩ hpw (Ne.symm hvp)).trans c72,(World.grownBy.frozen_far h2 ⟨p,72,none⟩ hpw (Ne.symm hvp)).trans f72⟩
   clear hM
   go_wp2_with (at_builtin; refine wpList_append_at rfl _ _ rfl B _ [] rfl ho (some ⟨b,o,none⟩) (len - k) (cap - k) (ys.drop k) rfl hB (by simp; omega) hBw ?_)
   intro v' w2 h1 h2 h3
   obtain ⟨k1,k2⟩:=HFAR.out w2 h2
   obtain ⟨a2,c2,rfl,_⟩:=h1.bsn (n:=len - k) hB.1
   have hS2 : Sb w2 p (hashed (xs ++ ys.take k)).list (.slice av 0 cv) N1:=(h2.block p hpw (Ne.symm hvp)).trans hS
   have hS3:=hS2.s72 (S8.list_length _) (.slice a2 (len - k) c2)
   have hC2 : Chg (SS p g) w w2:=by
    refine hc.trans (S':=fun q => (Value.slice av 0 cv).ownBlock = some q) ((Chg.refl _ wc).grown h2 (fun q _ hq => hq)) (fun i hi h => ?_)
    rcases hvg with e | ⟨q,e,hq⟩
    ·exact .inr (e ▸ h)
    ·rw [e] at h; injection h with h; omega
   have hC3:=hC2.setCell (p:=⟨p,72,none⟩) (fun _ => .inl rfl) (.slice a2 (len - k) c2)
   have hgp2 : (Value.slice a2 (len - k) c2).ownBlock ≠ some p:=by
    rcases h3 with h3 | h3
    ·rw [h3]; exact hvp
    ·rw [h3]; intro e; injection e with e; rw [<- e] at hpw; exact Nat.lt_irrefl _ hpw
   have hO3 : Own (w2.setCell ⟨p,72,none⟩ (.slice a2 (len - k) c2)) B (.slice a2 (len - k) c2) (ys.drop k):=ownsRow_setc h1 _ _ hgp2
   have HG3 : (Value.slice a2 (len - k) c2).ownBlock = g ∨ ∃ q,(Value.slice a2 (len - k) c2).ownBlock = some q /\ w.heap.size <= q:=by
    rcases h3 with h3 | h3
    ·rw [h3]; exact hvg
    ·exact .inr ⟨_,h3,hc.size⟩
   have hfew:=hashed_few (xs ++ ys.take k) (ys.drop k) (by rw [hh,List.length_nil,hB.1]; omega)
   have e4 : xs ++ ys.take k ++ ys.drop k = xs ++ ys:=by rw [List.append_assoc,List.take_append_drop]
   rw [e4,hh,List.nil_append] at hfew
   have hN : N1 = (xs ++ ys).length:=by rw [List.length_append,HYL.out]; exact HN1.out
   rw [hN,<- hfew.1] at hS3
   rw [<- hfew.2] at hO3
   have HP:=qh (SPost.mk' hBp hS3 hO3 rfl hgp2 hC3 HG3)
   clear hS hS2 hS3 hC2 hC3 hO3 HG3 hfew e4 hN h1 h2 h3 hB hh ho hvp hc hvg hgp2 c72 f72
   go_wp2_with fail
   go_end0
   exact ⟨rfl,HP.out⟩
theorem shawrite_empty (B p : Nat) (g : Option Nat) (xs : List UInt8) (a : Option Addr) (cap : Nat) (w : World) (h : Strm w B p g xs) (hc : cap <= maxLen) (hl : xs.length <= 1000000) :
  Calls Tryz.prog 218 #[.pointer (some ⟨p,0,none⟩),.slice a 0 cap] w fun e w' => e = .returned (.tuple #[]) /\ SPost w B p g xs w':=by
 obtain ⟨hBp,v,hS,hO,hvg,hgp⟩:=h
 have hS : Sb w p (hashed xs).list v xs.length:=hS
 obtain ⟨r,hr⟩:=qnm ((held xs).length)
 obtain ⟨av,cv,rfl,hBv⟩:=hO.bsn hr.symm
 obtain ⟨n0,hn0⟩:=qnm xs.length
 rw [<- hn0] at hS hl
 have hr64 : r < 64:=by rw [hr,held_length]; omega
 have hS1:=hS.s73 (S8.list_length _) n0
 have c73:=hS.c73 (S8.list_length _)
 have f73:=SB.frozen hS 73
 have hp:=SB.lt hS
 have hC1:=(Chg.refl (SS p g) w).setCell (p:=⟨p,73,none⟩) (fun _ => .inl rfl) (.int .i64 (n0 : Int))
 have hcs : Chg (fun k => k = p) w (w.setCell ⟨p,73,none⟩ (.int .i64 (n0 : Int))):=Chg.setCell (S:=fun k => k = p) (p:=⟨p,73,none⟩) (Chg.refl _ w) (fun _ => rfl) _
 have hO1:=hcs.own hO (fun k hk e => hgp (by rw [<- hvg,hk,e]))
 have HR:=qh (aI hr hn0)
 have HVG:=qh hvg
 clear hr hn0 hO hBv hcs hS hvg
 unfold maxLen at hc
 go_enter Tryz.func218,Tryz.ntmps218
 go_upto_region 1 with fail
 clear c73 f73
 generalize w.setCell ⟨p,73,none⟩ (.int .i64 (n0 : Int)) = w1 at *
 have c72:=hS1.c72 (S8.list_length _)
 have f72:=SB.frozen hS1 72
 by_cases hr0 : 0 < r
 ·have hmin : min 0 (64 - r) = 0:=by omega
  have h64r : (0 : Int) < 64 - (r : Int):=by omega
  have hhl : (held xs).length = r:=HR.out.1.symm
  have hBe : Bs w1.drew a 0 cap []:=⟨rfl,Nat.zero_le _,by unfold maxLen; exact hc,.inl rfl⟩
  have hL : (held xs).length + 0 <= 140737488355328:=by rw [hhl]; omega
  have hpw1 : p < w1.heap.size:=SB.lt hS1
  have hBw1 : B <= w1.heap.size:=by omega
  have hgv : some p ≠ (Value.slice av r cv).ownBlock:=fun e => hgp (by rw [<- HVG.out,<- e])
  have HLN : Hid ((held xs ++ []).length = r):=qh (by rw [List.append_nil,hhl])
  have HFAR : Hid (∀ w2,w1.drew.grownBy w2 (Value.slice av r cv).ownBlock -> w2.cell? ⟨p,72,none⟩ = some (.slice av r cv) /\ w2.frozen? ⟨p,72,none⟩ = false) :=
   qh fun w2 h2 => ⟨(World.grownBy.cell_far h2 ⟨p,72,none⟩ hpw1 hgv).trans c72,(World.grownBy.frozen_far h2 ⟨p,72,none⟩ hpw1 hgv).trans f72⟩
  clear hmin
  go_upto_region 3 with fail
  go_region_law (have hX1:=hO1.below (Below.refl _ _).drew; refine step_append_at rfl (.tmp 33) (.tmp 36) rfl B _ (held xs) ?_ hX1 _ 0 _ [] ?_ hBe hL hBw1 (fun v' w2 h1 h2 h3 => ?_); (rfl); (rfl); obtain ⟨k1,k2⟩:=HFAR.out w2 h2; obtain ⟨a2,c2,rfl,hb2⟩:=Own.bsn h1 HLN.out)
  rw [List.append_nil] at h1
  have hS2 : Sb w2 p (hashed xs).list (.slice av r cv) n0:=(h2.block p hpw1 hgv).trans hS1
  have hS3:=hS2.s72 (S8.list_length _) (.slice a2 r c2)
  have hC2 : Chg (SS p g) w w2:=hC1.trans (S':=fun q => g = some q) ((Chg.refl _ w1).drew.grown h2 (fun q _ hq => by rw [<- HVG.out]; exact hq)) (fun i _ h => .inr h)
  have hC3:=hC2.setCell (p:=⟨p,72,none⟩) (fun _ => .inl rfl) (.slice a2 r c2)
  have hgp2 : (Value.slice a2 r c2).ownBlock ≠ some p:=by
   rcases h3 with h3 | h3
   ·rw [h3,HVG.out]; exact hgp
   ·rw [h3]; intro e; injection e with e; rw [<- e] at hpw1; exact Nat.lt_irrefl _ hpw1
  have hO3 : Own (w2.setCell ⟨p,72,none⟩ (.slice a2 r c2)) B (.slice a2 r c2) (held xs):=ownsRow_setc h1 _ _ hgp2
  have HG3 : (Value.slice a2 r c2).ownBlock = g ∨ ∃ q,(Value.slice a2 r c2).ownBlock = some q /\ w.heap.size <= q:=by
   rcases h3 with h3 | h3
   ·exact .inl (h3.trans HVG.out)
   ·exact .inr ⟨_,h3,hC1.size⟩
  have HS3:=qh hS3
  rw [HR.out.2] at hS3
  have HP:=qh (SPost.mk' hBp hS3 hO3 rfl hgp2 hC3 HG3)
  clear hS3
  have hS3:=HS3.out
  clear h1 h2 h3 k1 k2 hb2 hS1 hS2 hC1 hC2 hO1 hhl hL hBw1 hpw1 hgv c72 f72 hO3 HG3 hC3 hBe
  have c72:=hS3.c72 (S8.list_length _)
  go_wp2_with fail
  all_goals refine bodyPost_ret (v:=.tuple #[]) (by simp [results,Tryz.results218,go_sem]) rfl ⟨rfl,HP.out⟩
 ·obtain rfl : r = 0:=by omega
  go_wp2_with fail
  go_loopw [1] (fun s1 wr => s1 = .slice a 0 cap /\ w1 = wr) (fun _ _ => 0)
  case atStart => exact ⟨rfl,rfl⟩
  case round =>
   obtain ⟨rfl,rfl⟩:=hrel
   have hpw : p < w1.heap.size:=SB.lt hS1
   have hBw : B <= w1.heap.size:=by omega
   have hBe : Bs w1 a 0 cap []:=⟨rfl,Nat.zero_le _,by unfold maxLen; exact hc,.inl rfl⟩
   have hgv : some p ≠ (Value.slice av 0 cv).ownBlock:=fun e => hgp (by rw [<- HVG.out,<- e])
   have HFAR : Hid (∀ w2,w1.grownBy w2 (Value.slice av 0 cv).ownBlock -> w2.cell? ⟨p,72,none⟩ = some (.slice av 0 cv) /\ w2.frozen? ⟨p,72,none⟩ = false) :=
    qh fun w2 h2 => ⟨(World.grownBy.cell_far h2 ⟨p,72,none⟩ hpw hgv).trans c72,(World.grownBy.frozen_far h2 ⟨p,72,none⟩ hpw hgv).trans f72⟩
   go_wp2_with (at_builtin; refine wpList_append_at rfl _ _ rfl B _ (held xs) rfl hO1 a 0 cap [] rfl hBe ?hln hBw ?hk)
   case hln => rw [<- HR.out.1]; omega
   intro v' w2 h1 h2 h3
   obtain ⟨k1,k2⟩:=HFAR.out w2 h2
   have h1 : Own w2 B v' (held xs):=by simpa using h1
   obtain ⟨a2,c2,rfl,_⟩:=h1.bsn (n:=0) HR.out.1.symm
   have hS2 : Sb w2 p (hashed xs).list (.slice av 0 cv) n0:=(h2.block p hpw hgv).trans hS1
   have hS3:=hS2.s72 (S8.list_length _) (.slice a2 0 c2)
   have hC2 : Chg (SS p g) w w2:=hC1.trans (S':=fun q => g = some q) ((Chg.refl _ w1).grown h2 (fun q _ hq => by rw [<- HVG.out]; exact hq)) (fun i _ h => .inr h)
   have hC3:=hC2.setCell (p:=⟨p,72,none⟩) (fun _ => .inl rfl) (.slice a2 0 c2)
   have hgp2 : (Value.slice a2 0 c2).ownBlock ≠ some p:=by
    rcases h3 with h3 | h3
    ·rw [h3,HVG.out]; exact hgp
    ·rw [h3]; intro e; injection e with e; rw [<- e] at hpw; exact Nat.lt_irrefl _ hpw
   have hO3 : Own (w2.setCell ⟨p,72,none⟩ (.slice a2 0 c2)) B (.slice a2 0 c2) (held xs):=ownsRow_setc h1 _ _ hgp2
   have HG3 : (Value.slice a2 0 c2).ownBlock = g ∨ ∃ q,(Value.slice a2 0 c2).ownBlock = some q /\ w.heap.size <= q:=by
    rcases h3 with h3 | h3
    ·exact .inl (h3.trans HVG.out)
    ·exact .inr ⟨_,h3,hC1.size⟩
   rw [HR.out.2] at hS3
   have HP:=qh (SPost.mk' hBp hS3 hO3 rfl hgp2 hC3 HG3)
   clear hS1 hS2 hS3 hC1 hC2 hC3 hO1 hO3 HG3 h1 h2 h3 hgp2 c72 f72 hBe hgv
   go_wp2_with fail
   go_end0
   exact ⟨rfl,HP.out⟩
theorem shawrite_any (B p : Nat) (g : Option Nat) (xs : List UInt8) (a : Option Addr) (len cap : Nat) (ys : List UInt8) (w : World) (h : Strm w B p g xs) (hy : Bs w a len cap ys) (hya : 0 < len -> ∀ ad,a = some ad -> ¬ SS p g ad.block) (hl : xs.length + len <= 1000000) :
  Calls Tryz.prog 218 #[.pointer (some ⟨p,0,none⟩),.slice a len cap] w fun e w' => e = .returned (.tuple #[]) /\ SPost w B p g (xs ++ ys) w':=by
 by_cases h0 : len = 0
 ·subst h0
  obtain rfl:=List.length_eq_zero_iff.1 hy.1
  rw [List.append_nil]
  exact shawrite_empty B p g xs a cap w h hy.2.2.1 (by omega)
 ·rcases hy.2.2.2 with h1 | ⟨b,off,rfl,_,_⟩
  ·exact absurd h1 h0
  ·exact shawrite_some B p g xs b off len cap ys w h hy (hya (by omega) _ rfl) hl
end
end Go.Proofs.YtabdcphioccgnaaGreatDoor
