/- SegRowC; RC; PtLaw; PtRoom; PtEnc; Ref4; DecS. -/
import Derived.Test.YtabdcphioccgnaaGreatDoorK07
import Derived.Test.YtabdcphioccgnaaGreatDoorK11
set_option maxRecDepth 100000
set_option maxHeartbeats 8000000
namespace Go.Proofs.YtabdcphioccgnaaGreatDoor
section
open Go.RowKit
theorem whole_any (a : Option Addr) (cap : Nat) (w : World) :
  Calls Tryz.prog 239 #[.slice a 32 cap] w fun e w' => e = .returned (.slice a 32 cap) /\ w = w':=by
 go_enter Tryz.func239,Tryz.ntmps239
 go_wp2
 go_ret
 exact ⟨rfl,rfl⟩
def hdRow (i f c : Nat) (P R : List UInt8) : List UInt8:=be 2 1 ++ (be i 2 ++ (be f 8 ++ (be c 2 ++ (P ++ R))))
def hdCells (i f c : Nat) (n : Int) (pa : Option Addr) (pc : Nat) (ra : Option Addr) (rc : Nat) : Array Value:=#[.int .i64 (i : Int),.int .u64 (f : Int),.int .i64 (c : Int),.int .i64 n,.slice pa 32 pc,.slice ra 32 rc]
theorem segrow_any (i f c : Nat) (n : Int) (pa ra : Option Addr) (pc rc : Nat) (P R : List UInt8) (w : World) (hi : i <= 65535) (hc : c <= 65535) (hP : Bs w pa 32 pc P) (hR : Bs w ra 32 rc R) :
  Calls Tryz.prog 203 #[.agg (hdCells i f c n pa pc ra rc)] w fun e w' => ∃ v,e = .returned v /\ Own w' w.heap.size v (hdRow i f c P R) /\ Below w.heap.size w w':=by
 have hPl:=hP.1
 have hRl:=hR.1
 have HP:=qh hP
 have HR:=qh hR
 clear hP hR
 unfold hdCells
 obtain ⟨w0,hw0⟩:=qnm (w.alloc (.cells #[.int .i64 (i : Int),.int .u64 (f : Int),.int .i64 (c : Int),.int .i64 n,.slice pa 32 pc,.slice ra 32 rc] 144))
 have hb:=qba hw0
 have hE0 : Ext w.heap.size w w0:=(Ext.refl w).step hb
 have hlt : w.heap.size < w0.heap.size:=by rw [hw0]; simp
 have hk : ∀ j,w0.cell? ⟨w.heap.size,j,none⟩ = (#[.int .i64 (i : Int),.int .u64 (f : Int),.int .i64 (c : Int),.int .i64 n,.slice pa 32 pc,.slice ra 32 rc] : Array Value)[j]?:=fun j => by rw [hw0]; exact cell_new _ _ _ _
 have c0 : w0.cell? ⟨w.heap.size,0,none⟩ = some (.int .i64 (i : Int)):=hk 0
 have c1 : w0.cell? ⟨w.heap.size,1,none⟩ = some (.int .u64 (f : Int)):=hk 1
 have c2 : w0.cell? ⟨w.heap.size,2,none⟩ = some (.int .i64 (c : Int)):=hk 2
 have c4 : w0.cell? ⟨w.heap.size,4,none⟩ = some (.slice pa 32 pc):=hk 4
 have c5 : w0.cell? ⟨w.heap.size,5,none⟩ = some (.slice ra 32 rc):=hk 5
 have HP0:=qh (HP.out.below hb)
 have HR0:=qh (HR.out.below hb)
 have HW0:=qh hw0
 clear hk hb hw0 HP HR
 go_enter Tryz.func203,Tryz.ntmps203
 go_upto_region 1 with fail
 rw [<- HW0.out]
 obtain ⟨H,hH⟩:=qnm w.heap.size
 rw [<- hH] at hE0 hlt c0 c1 c2 c4 c5 ⊢
 have HH:=qh hH
 clear hH HW0
 go_wp2_with fail
 refine (wnew_any _).mono ?_
 rintro e w2 ⟨rfl,hW1,hb1⟩
 have hI2 : WI w0 w0.heap.size w0.heap.size w2 []:=⟨(Ext.refl w0).step hb1,none,hW1⟩
 have HQ:=qh (show ∃ q,q = w0.heap.size from ⟨_,rfl⟩)
 obtain ⟨q,hq⟩:=HQ.out
 have HQ:=qh hq
 rw [<- hq] at hI2 hlt ⊢
 clear hW1 hb1 hq
 go_wp2_with fail
 refine (wbyte_ok 2 hI2 (by omega) (by unfold big; decide)).mono ?_
 rintro e w3 ⟨rfl,hI3⟩
 have d0:=hI3.cell hlt c0
 clear hI2
 go_wp2_with fail
 refine (wshort_ok i hI3 (by omega) (by simp [be_length]; unfold big; decide)).mono ?_
 rintro e w4 ⟨rfl,hI4⟩
 have d1:=hI4.cell hlt c1
 clear d0 hI3
 go_wp2_with fail
 refine (wlong_ok f hI4 (by simp [be_length]; unfold big; decide)).mono ?_
 rintro e w5 ⟨rfl,hI5⟩
 have d2:=hI5.cell hlt c2
 clear d1 hI4
 go_wp2_with fail
 refine (wshort_ok c hI5 (by omega) (by simp [be_length]; unfold big; decide)).mono ?_
 rintro e w6 ⟨rfl,hI6⟩
 have d4:=hI6.cell hlt c4
 clear d2 hI5
 go_wp2_with fail
 refine (whole_any pa pc _).mono ?_
 rintro e w7 ⟨rfl,rfl⟩
 go_wp2_with fail
 refine (wraw_ok hI6 (hI6.1.bs HQ.out.symm HP0.out) (by simp [be_length]; unfold big; decide)).mono ?_
 rintro e w8 ⟨rfl,hI8⟩
 have d5:=hI8.cell hlt c5
 clear d4 hI6
 go_wp2_with fail
 refine (whole_any ra rc _).mono ?_
 rintro e w9 ⟨rfl,rfl⟩
 go_wp2_with fail
 refine (wraw_ok hI8 (hI8.1.bs HQ.out.symm HR0.out) (by simp [be_length,hPl]; unfold big; decide)).mono ?_
 rintro e w10 ⟨rfl,hI10⟩
 clear d5 hI8
 obtain ⟨hE8,g,hW8⟩:=hI10
 go_wp2_with fail
 refine (wdone_any q q g _ _ hW8 (by simp [be_length,hPl,hRl]; unfold big; decide)).mono ?_
 rintro e w11 ⟨v,rfl,ho,hb9⟩
 go_wp2_with fail
 go_ret
 have hE9:=(hE0.to (hE8.1.mono (Nat.le_of_lt hlt))).step hb9
 rw [<- HH.out]
 exact ⟨v,rfl,(by simpa [hdRow] using ho.weaken (hE0.to (hE8.1.mono (Nat.le_of_lt hlt))).2),hE9.1⟩
theorem hdRow_length (i f c : Nat) (P R : List UInt8) (hP : P.length = 32) (hR : R.length = 32) : (hdRow i f c P R).length = 77:=by simp [hdRow,be_length,hP,hR]
theorem segseal_any (i f c : Nat) (n : Int) (pa ra : Option Addr) (pc rc : Nat) (P R : List UInt8) (w : World) (hi : i <= 65535) (hc : c <= 65535) (hP : Bs w pa 32 pc P) (hR : Bs w ra 32 rc R) :
  Calls Tryz.prog 150 #[.agg (hdCells i f c n pa pc ra rc)] w fun e w' => ∃ v,e = .returned v /\ Own w' w.heap.size v (sha (hdRow i f c P R)) /\ Below w.heap.size w w':=by
 have hl:=hdRow_length i f c P R hP.1 hR.1
 have HC:=qh (fun w' (hb : Below w.heap.size w w') => segrow_any i f c n pa ra pc rc P R w' hi hc (hP.below hb) (hR.below hb))
 have HPl:=qh hl
 have hE:=(Ext.refl w).alloc (.cells #[.int .i64 (i : Int),.int .u64 (f : Int),.int .i64 (c : Int),.int .i64 n,.slice pa 32 pc,.slice ra 32 rc] 144)
 unfold hdCells at *
 clear hP hR hl
 go_enter Tryz.func150,Tryz.ntmps150
 go_wp2_with fail
 refine (HC.out _ hE.1).mono ?_
 rintro e w1 ⟨v,rfl,ho,hb1⟩
 obtain ⟨a1,c1,rfl,hB1⟩:=ho.bsn HPl.out
 have hE1:=hE.step hb1
 clear ho hb1 hE HC
 go_wp2_with fail
 refine (shasum_any a1 77 c1 _ _ hB1 (by omega)).mono ?_
 rintro e w2 ⟨v2,rfl,ho2,hb2⟩
 have hE2:=hE1.step hb2
 go_wp2_with fail
 go_ret
 exact ⟨_,rfl,ho2.weaken hE1.2,hE2.1⟩
end
section
open Go.RowKit
structure RC (P q : Nat) (rb : Option Nat) (W : World) (L : List UInt8) : Prop where
 rd : Rd W P q rb L 0
 len : L.length <= big
 rlt : ∀ k,rb = some k -> k < W.heap.size
variable {P q : Nat} {rb : Option Nat} {W : World} {L : List UInt8}
theorem RC.qlt (h : RC P q rb W L) : q < W.heap.size:=h.rd.lt
theorem RC.chg {S : Nat -> Prop} {w' : World} (h : RC P q rb W L) (hc : Chg S W w') (hs : ∀ k,RS q rb k -> ¬ S k) : RC P q rb w' L :=
 ⟨h.rd.chg hc hs,h.len,fun k hk => Nat.lt_of_lt_of_le (h.rlt k hk) hc.size⟩
theorem RC.below {w' : World} (h : RC P q rb W L) (hb : Below W.heap.size W w') : RC P q rb w' L :=
 ⟨h.rd.below hb,h.len,fun k hk => Nat.lt_of_lt_of_le (h.rlt k hk) hb.size⟩
theorem RC.post {w' : World} {s : List UInt8 × Nat} {L' : List UInt8} (h : RC P q rb W L) (hP : RPost W P q rb s w') (hs : s = (L',0)) (hl : L'.length <= L.length) : RC P q rb w' L':=by
 subst hs
 exact ⟨hP.1,Nat.le_trans hl h.len,fun k hk => Nat.lt_of_lt_of_le (h.rlt k hk) hP.2.size⟩
theorem rc_new (a : Option Addr) (len cap : Nat) (xs : List UInt8) (w : World) (h : Bs w a len cap xs) (hl : len <= big) :
  Calls Tryz.prog 144 #[.slice a len cap] w fun e w' => ∃ q rb,e = .returned (.pointer (some ⟨q,0,none⟩)) /\ RC w.heap.size q rb w' xs /\ Below w.heap.size w w':=by
 have hxl:=qh h.1
 go_enter Tryz.func144,Tryz.ntmps144
 go_wp2_with fail
 refine (clone_any a len cap xs _ h hl).mono ?_
 rintro e w1 ⟨v,rfl,ho,hbl⟩
 have hs:=hbl.size
 rcases ho.parts with ⟨rfl,rfl⟩ | ⟨g,c',rfl,hg,hr⟩
 ·go_wp2_with fail
  go_ret
  exact ⟨_,none,rfl,⟨⟨hs,none,0,heap_alloc_new w1 _,Bs.nil _,rfl,by simp,by simp⟩,by simp,by simp⟩,((Ext.refl w).step hbl |>.alloc _).1⟩
 ·have hrl:=hr.lt
  go_wp2_with fail
  go_ret
  exact ⟨_,some g,rfl,⟨⟨hs,_,c',heap_alloc_new w1 _,(hr.alloc _).bs,rfl,by simp; omega,by simp; omega⟩,by rw [hxl.out]; exact hl,by simp; omega⟩,((Ext.refl w).step hbl |>.alloc _).1⟩
theorem rc_bytes (ys : List UInt8) (h : RC P q rb W (lenBytes ys ++ L)) (hy : ys.length <= 65535) :
  Calls Tryz.prog 211 #[.pointer (some ⟨q,0,none⟩)] W fun e w' => (∃ v,e = .returned v /\ Own w' W.heap.size v ys) /\ RC P q rb w' L /\ Chg (fun k => k = q) W w':=by
 refine (rbytes_any P q rb (lenBytes ys ++ L,0) W h.rd h.len).mono ?_
 have e1 : lenBytes ys = be ys.length 2 ++ ys:=by unfold lenBytes; rw [Nat.min_eq_left hy,List.take_of_length_le hy]
 rw [e1,rdBytes_app _ _ hy]
 rw [e1] at h
 intro e w' ⟨v,h1,h2,h3⟩
 exact ⟨⟨v,h1,h2⟩,h.post h3 rfl (by simp; omega),h3.2⟩
theorem rc_raw (ys : List UInt8) (n : Int) (h : RC P q rb W (ys ++ L)) (hn : n = ys.length) :
  Calls Tryz.prog 147 #[.pointer (some ⟨q,0,none⟩),.int .i64 n] W fun e w' => (∃ v,e = .returned v /\ Own w' W.heap.size v ys) /\ RC P q rb w' L /\ Chg (fun k => k = q) W w':=by
 refine (rraw_any P q rb (ys ++ L) 0 n W h.rd h.len).mono ?_
 rintro e w' ⟨v,rfl,ho,hP⟩
 rw [rdRaw_app ys L n hn] at ho hP
 exact ⟨⟨v,rfl,ho⟩,h.post hP rfl (by simp),hP.2⟩
theorem rc_short (n : Nat) (h : RC P q rb W (be n 2 ++ L)) (hn : n < 65536) :
  Calls Tryz.prog 145 #[.pointer (some ⟨q,0,none⟩)] W fun e w' => e = .returned (.int .i64 (n : Int)) /\ RC P q rb w' L /\ Chg (fun k => k = q) W w':=by
 refine (rshort_any P q rb (be n 2 ++ L,0) W h.rd h.len).mono ?_
 rw [rdShort_be,Nat.mod_eq_of_lt hn]
 exact fun e w' ⟨h1,h2⟩ => ⟨h1,h.post h2 rfl (by simp),h2.2⟩
theorem rc_byte (n : Nat) (h : RC P q rb W (be n 1 ++ L)) (hn : n < 256) :
  Calls Tryz.prog 210 #[.pointer (some ⟨q,0,none⟩)] W fun e w' => e = .returned (.int .i64 (n : Int)) /\ RC P q rb w' L /\ Chg (fun k => k = q) W w':=by
 refine (rbyte_any P q rb (be n 1 ++ L,0) W h.rd h.len).mono ?_
 rw [rdByte_be,Nat.mod_eq_of_lt hn]
 exact fun e w' ⟨h1,h2⟩ => ⟨h1,h.post h2 rfl (by simp),h2.2⟩
theorem rc_long (n : Nat) (h : RC P q rb W (be n 8 ++ L)) (hn : n < 18446744073709551616) :
  Calls Tryz.prog 146 #[.pointer (some ⟨q,0,none⟩)] W fun e w' => e = .returned (.int .u64 (n : Int)) /\ RC P q rb w' L /\ Chg (fun k => k = q) W w':=by
 refine (rlong_any P q rb (be n 8 ++ L,0) W h.rd h.len).mono ?_
 rw [rdLong_be _ _ hn]
 exact fun e w' ⟨h1,h2⟩ => ⟨h1,h.post h2 rfl (by simp),h2.2⟩
theorem rc_left (h : RC P q rb W L) :
  Calls Tryz.prog 238 #[.pointer (some ⟨q,0,none⟩)] W fun e w' => e = .returned (.int .i64 (L.length : Int)) /\ W = w':=by
 refine (rleft_any P q rb (L,0) W h.rd).mono ?_
 rintro e w' ⟨rfl,rfl⟩
 exact ⟨by simp [rdLeft],rfl⟩
theorem rc_end (h : RC P q rb W L) :
  Calls Tryz.prog 212 #[.pointer (some ⟨q,0,none⟩)] W fun e w' => e = .returned (.int .i64 (if L = [] then 0 else 11 : Int)) /\ W = w':=by
 refine (rend_any P q rb (L,0) W h.rd).mono ?_
 rintro e w' ⟨rfl,rfl⟩
 refine ⟨?_,rfl⟩
 unfold rdEnd
 cases L <;> simp
end
section
open Go.RowKit
theorem pt_be_low (a b k : Nat) : be (a * 256 ^ k + b) k = be b k:=by
 have : ∀ (a k m : Nat),k <= m -> be (a * 256 ^ m + b) k = be b k:=by
  intro a k
  induction k with
  | zero => intros; rfl
  | succ k ih =>
   intro m hm
   rw [be,be,ih m (by omega)]
   congr 1
   apply UInt8.toNat_inj.1
   rw [UInt8.toNat_ofNat',UInt8.toNat_ofNat']
   obtain ⟨d,rfl⟩ : ∃ d,m = k + 1 + d:=⟨m - (k + 1),by omega⟩
   rw [show a * 256 ^ (k + 1 + d) + b = b + 256 ^ k * (256 * (a * 256 ^ d)) by rw [Nat.pow_add,Nat.pow_succ]; ac_rfl]
   rw [Nat.add_mul_div_left _ _ (Nat.pow_pos (by decide)),show (2 : Nat) ^ 8 = 256 from rfl,Nat.add_mul_mod_self_left]
 exact this a k k (Nat.le_refl _)
def MT : Nat:=1099511627776
structure Mk where
 gen : Nat
 seq : Nat
 seg : Int
 head : List UInt8
 state : List UInt8
def Mk.zero : Mk:=⟨0,0,0,[],[]⟩
def ptHead (G Q S : Nat) (H : List UInt8) (N : Nat) : List UInt8:=be G 8 ++ (be Q 8 ++ (be S 2 ++ (H ++ be N 8)))
def ptImg (G Q S : Nat) (H : List UInt8) (N c : Nat) (h rest : List UInt8) : List UInt8:=ptHead G Q S H N ++ (be (c / 65536) 2 ++ (be c 2 ++ (h ++ rest)))
theorem ptHead_length (G Q S : Nat) (H : List UInt8) (N : Nat) (h : H.length = 32) : (ptHead G Q S H N).length = 58:=by simp [ptHead,be_length,h]
theorem ptImg_length (G Q S : Nat) (H : List UInt8) (N c : Nat) (h rest : List UInt8) (h1 : H.length = 32) (h2 : h.length = 32) : (ptImg G Q S H N c h rest).length = 94 + rest.length:=by
 simp [ptImg,ptHead_length _ _ _ _ _ h1,be_length,h2]; omega
def Mk.right (m : Mk) (g : Int) : Prop:=1 <= m.gen /\ m.gen <= MT /\ m.seq <= MT /\ 0 <= m.seg /\ m.seg <= g /\ m.head.length = 32
instance (m : Mk) (g : Int) : Decidable (m.right g):=by unfold Mk.right; infer_instance
instance (s p g : Int) : Decidable (isPlan s p g):=by unfold isPlan; infer_instance
def ptBytes (p : Nat) (m : Mk) : List UInt8:=ptImg m.gen m.seq m.seg.toNat m.head m.state.length (crcMore 0 (ptHead m.gen m.seq m.seg.toNat m.head m.state.length)) (sha m.state) (m.state ++ List.replicate (128 * p - 94 - m.state.length) 0)
def noughts (l : List UInt8) : Bool:=l.all (· == 0)
def ptWhy (p g : Int) (G Q S : Nat) (H : List UInt8) (N c : Nat) (h rest : List UInt8) : Nat :=
 if c ≠ crcMore 0 (ptHead G Q S H N) then 14
 else if ¬ (1 <= G /\ G <= MT /\ Q <= MT /\ (S : Int) <= g /\ (N : Int) <= 128 * p - 94 /\ noughts (rest.drop N) = true) then 12
 else if sha (rest.take N) ≠ h then 40 else 0
def ptMk (why G Q S : Nat) (H : List UInt8) (N : Nat) (rest : List UInt8) : Mk:=if why = 0 then ⟨G,Q,S,H,rest.take N⟩ else Mk.zero
theorem noughts_replicate (k : Nat) : noughts (List.replicate k 0) = true:=by
 unfold noughts; rw [List.all_eq_true]; intro x hx; rw [List.eq_of_mem_replicate hx]; rfl
theorem ptWhy_ok (p g : Int) (m : Mk) (hr : m.right g) (hp : (m.state.length : Int) <= 128 * p - 94) (c : Nat) (hc : c = crcMore 0 (ptHead m.gen m.seq m.seg.toNat m.head m.state.length)) :
  ptWhy p g m.gen m.seq m.seg.toNat m.head m.state.length c (sha m.state) (m.state ++ List.replicate (128 * p.toNat - 94 - m.state.length) 0) = 0:=by
 obtain ⟨h1,h2,h3,h4,h5,h6⟩:=hr
 unfold ptWhy
 rw [if_neg (by simp [hc]),if_neg,if_neg]
 ·simp
 ·simp only [Classical.not_not]
  exact ⟨h1,h2,h3,by omega,hp,by rw [List.drop_left]; exact noughts_replicate _⟩
theorem room_ok (s p g : Int) (w : World) (h : isPlan s p g) :
  Calls Tryz.prog 172 #[.agg #[.int .i64 s,.int .i64 p,.int .i64 g]] w fun e w' => e = .returned (.int .i64 (128 * p - 94)) /\ Below w.heap.size w w':=by
 have hbd:=h.bd
 have HR:=qh (right_ok s p g (w.alloc (.cells #[.int .i64 s,.int .i64 p,.int .i64 g] 56)) h)
 clear h
 have i1 : IntKind.i64.wrap (128 * p) = 128 * p:=IntWalk.i64_in _ (by omega)
 have i2 : IntKind.i64.wrap (128 * p - 94) = 128 * p - 94:=IntWalk.i64_in _ (by omega)
 have e1 : (0 : Int) <= 128 * p - 94:=by omega
 go_enter Tryz.func172,Tryz.ntmps172
 go_wp2_with fail
 refine HR.out.mono ?_
 rintro e w1 ⟨rfl,hb⟩
 have hE:=((Ext.refl w).alloc (.cells #[.int .i64 s,.int .i64 p,.int .i64 g] 56)).step hb
 have c1 : w1.cell? ⟨w.heap.size,1,none⟩ = some (.int .i64 p):=cell_new_below hb 1
 clear hb HR
 go_wp2_with fail
 all_goals go_ret
 all_goals exact ⟨ret_int (by omega),hE.1⟩
theorem ptright_any (s p g : Int) (m : Mk) (ah al : Option Addr) (lh ch lt ct : Nat) (w : World) (hh : m.head.length = lh) :
  Calls Tryz.prog 171 #[.agg #[.int .i64 s,.int .i64 p,.int .i64 g],.agg #[.int .u64 (m.gen : Int),.int .u64 (m.seq : Int),.int .i64 m.seg,.slice ah lh ch,.slice al lt ct]] w fun e w' => e = .returned (.bool (decide (m.right g))) /\ Below w.heap.size w w':=by
 obtain ⟨G,Q,S,H,T⟩:=m
 simp only at hh
 generalize hok : decide (Mk.right ⟨G,Q,S,H,T⟩ g) = ok
 have HO:=qh hok
 have HH:=qh hh
 clear hok hh
 simp only
 go_enter Tryz.func171,Tryz.ntmps171
 go_wp2
 all_goals go_ret
 all_goals refine ⟨ret_bool ?_,(((Ext.refl w).alloc _).alloc _).1⟩
 all_goals have hh:=HH.out
 all_goals rw [<- HO.out,Bool.eq_iff_iff]
 all_goals rw [decide_eq_true_iff (p:=Mk.right _ _)]
 all_goals simp only [Mk.right,MT,Bool.false_eq_true,false_iff]
 all_goals (first | omega | (simp_all; done) | (simp_all; omega) | go_goals)
theorem newer_any (m n : Mk) (a1 a2 a3 a4 : Option Addr) (l1 l2 l3 l4 c1 c2 c3 c4 : Nat) (fa fb : Bool) (w : World) :
  Calls Tryz.prog 157 #[.agg #[.int .u64 (m.gen : Int),.int .u64 (m.seq : Int),.int .i64 m.seg,.slice a1 l1 c1,.slice a2 l2 c2],.agg #[.int .u64 (n.gen : Int),.int .u64 (n.seq : Int),.int .i64 n.seg,.slice a3 l3 c3,.slice a4 l4 c4],.bool fa,.bool fb] w
   fun e w' => e = .returned (.tuple #[.int .i64 (if fa = true /\ (fb = false ∨ n.gen <= m.gen) then 0 else if fb = true then 1 else 0),.bool (fa || fb)]) /\ Below w.heap.size w w':=by
 obtain ⟨G,Q,S,H,T⟩:=m
 obtain ⟨G',Q',S',H',T'⟩:=n
 simp only
 cases fa <;> cases fb
 all_goals simp only [Bool.false_eq_true,false_and,if_false,true_and,Bool.or_false,Bool.or_true,if_true,true_or,false_or,reduceCtorEq]
 ·go_enter Tryz.func157,Tryz.ntmps157
  go_wp2
  go_ret2
  exact ⟨rfl,(((Ext.refl w).alloc _).alloc _).1⟩
 ·go_enter Tryz.func157,Tryz.ntmps157
  go_wp2
  go_ret2
  exact ⟨rfl,(((Ext.refl w).alloc _).alloc _).1⟩
 ·go_enter Tryz.func157,Tryz.ntmps157
  go_wp2
  go_ret2
  exact ⟨rfl,(((Ext.refl w).alloc _).alloc _).1⟩
 ·by_cases hle : G' <= G
  ·have h1 : (G' : Int) <= (G : Int):=by omega
   rw [if_pos hle]
   clear hle
   go_enter Tryz.func157,Tryz.ntmps157
   go_wp2
   go_ret2
   exact ⟨rfl,(((Ext.refl w).alloc _).alloc _).1⟩
  ·have h1 : ¬ (G' : Int) <= (G : Int):=by omega
   rw [if_neg hle]
   clear hle
   go_enter Tryz.func157,Tryz.ntmps157
   go_wp2
   go_ret2
   exact ⟨rfl,(((Ext.refl w).alloc _).alloc _).1⟩
def CellsAt (w : World) (b : Nat) (cs : List Value) : Prop:=b < w.heap.size /\ ∀ i v,cs[i]? = some v -> w.cell? ⟨b,i,none⟩ = some v
theorem CellsAt.below {w w' : World} {b : Nat} {cs : List Value} (h : CellsAt w b cs) (hb : Below w.heap.size w w') : CellsAt w' b cs :=
 ⟨Nat.lt_of_lt_of_le h.1 hb.size,fun i v hv => (hb.cell (p:=⟨b,i,none⟩) h.1).trans (h.2 i v hv)⟩
theorem CellsAt.new (w : World) (cs : List Value) (t : TypeId) : CellsAt (w.alloc (.cells cs.toArray t)) w.heap.size cs :=
 ⟨by simp,fun i v hv => by rw [cell_new]; simpa using hv⟩
def plC (s p g : Int) : List Value:=[.int .i64 s,.int .i64 p,.int .i64 g]
def mkC (m : Mk) (ah : Option Addr) (lh ch : Nat) (al : Option Addr) (lt ct : Nat) : List Value:=[.int .u64 (m.gen : Int),.int .u64 (m.seq : Int),.int .i64 m.seg,.slice ah lh ch,.slice al lt ct]
theorem penc_ok (s p g : Int) (m : Mk) (ah al : Option Addr) (lh ch lt ct : Nat) (w : World) (h : isPlan s p g) (hH : Bs w ah lh ch m.head) (hT : Bs w al lt ct m.state) (hr : m.right g) (hl : (lt : Int) <= 128 * p - 94) :
  Calls Tryz.prog 96 #[.agg #[.int .i64 s,.int .i64 p,.int .i64 g],.agg #[.int .u64 (m.gen : Int),.int .u64 (m.seq : Int),.int .i64 m.seg,.slice ah lh ch,.slice al lt ct]] w fun e w' => ∃ v,e = .returned (.tuple #[v,.int .i64 0]) /\ Own w' w.heap.size v (ptBytes p.toNat m) /\ Below w.heap.size w w':=by
 obtain ⟨G,Q,SG,H,T⟩:=m
 simp only at *
 have hPl:=(CellsAt.new w (plC s p g) 56).below ((Below.refl _ _).alloc (Nat.le_refl _) (.cells (mkC ⟨G,Q,SG,H,T⟩ ah lh ch al lt ct).toArray 91))
 have hMk:=CellsAt.new (w.alloc (.cells (plC s p g).toArray 56)) (mkC ⟨G,Q,SG,H,T⟩ ah lh ch al lt ct) 91
 have hE:=((Ext.refl w).alloc (.cells (plC s p g).toArray 56)).alloc (.cells (mkC ⟨G,Q,SG,H,T⟩ ah lh ch al lt ct).toArray 91)
 rw [World.size_alloc] at hMk
 have HR:=qh (right_ok s p g ((w.alloc (.cells (plC s p g).toArray 56)).alloc (.cells (mkC ⟨G,Q,SG,H,T⟩ ah lh ch al lt ct).toArray 91)) h)
 have HPL:=qh h
 obtain ⟨B,hB⟩:=qnm w.heap.size
 have HB0:=qh hB
 clear h
 go_enter Tryz.func96,Tryz.ntmps96
 go_wp2_with fail
 refine HR.out.mono ?_
 rintro e w1 ⟨rfl,hb⟩
 replace hE:=hE.step hb
 replace hPl:=hPl.below hb
 replace hMk:=hMk.below hb
 rw [<- hB] at hPl hMk hE ⊢
 replace hH:=((hH.alloc _).alloc _).below hb
 replace hT:=((hT.alloc _).alloc _).below hb
 clear hb HR hB
 have c:=hPl.2
 have p0:=c 0 _ rfl
 have p1:=c 1 _ rfl
 have p2:=c 2 _ rfl
 clear c
 have c:=hMk.2
 have m0:=c 0 _ rfl
 have m1:=c 1 _ rfl
 have m2:=c 2 _ rfl
 have m3:=c 3 _ rfl
 have m4:=c 4 _ rfl
 clear c
 have hh:=hH.1
 have HQ:=qh (ptright_any s p g ⟨G,Q,SG,H,T⟩ ah al lh ch lt ct w1 hh)
 rw [decide_eq_true hr] at HQ
 go_wp2_with fail
 refine HQ.out.mono ?_
 rintro e w2 ⟨rfl,hb⟩
 replace hE:=hE.step hb
 replace hPl:=hPl.below hb
 replace hMk:=hMk.below hb
 replace hH:=hH.below hb
 replace hT:=hT.below hb
 clear hb HQ p0 p1 p2 m0 m1 m2 m3 m4
 have hpb:=HPL.out.bd
 obtain ⟨r1,r2,r3,r4,r5,r6⟩:=hr
 simp only at r1 r2 r3 r4 r5 r6
 obtain ⟨SN,rfl⟩ : ∃ SN : Nat,SG = (SN : Int):=⟨SG.toNat,by omega⟩
 have hlh : lh = 32:=by rw [<- hh]; exact r6
 subst hlh
 have hlt:=hT.1
 have HMT : MT = 1099511627776:=rfl
 have e5 : ¬ (128 * p - 94 < (lt : Int)):=by omega
 have hSn : SN <= 4096:=by omega
 obtain ⟨k,hk⟩ : ∃ k : Nat,128 * p - 94 - (lt : Int) = (k : Int):=⟨(128 * p - 94 - (lt : Int)).toNat,by omega⟩
 have hkn : k = 128 * p.toNat - 94 - T.length:=by omega
 have hkb : k <= 200000:=by omega
 have hltb : lt <= 200000:=by omega
 have i1 : IntKind.i64.wrap (128 * p - 94 - (lt : Int)) = (k : Int):=by rw [IntWalk.i64_in _ (by omega)]; exact hk
 have HK:=qh hk
 have HX:=qh (show ptBytes p.toNat ⟨G,Q,(SN : Int),H,T⟩ = ptHead G Q SN H T.length ++ (be (crcMore 0 (ptHead G Q SN H T.length) / 65536) 2 ++ (be (crcMore 0 (ptHead G Q SN H T.length)) 2 ++ (sha T ++ (T ++ List.replicate k 0)))) by rw [hkn]; rfl)
 have HLN:=qh (ptHead_length G Q SN H T.length r6)
 have HLT:=qh hlt
 have HR6:=qh r6
 clear r1 r2 r3 r4 r5 r6 hh HMT hkn hk hlt
 go_upto_region 5 with fail
 obtain ⟨wd,hwd⟩:=qnm w2.drew
 have hb : Below w2.heap.size w2 wd:=by rw [hwd]; exact (Below.refl _ _).drew
 have hPl:=hPl.below hb
 have hMk:=hMk.below hb
 have hH:=hH.below hb
 have hT:=hT.below hb
 have hE:=hE.step hb
 clear hb
 refine held_start (by kernel_rfl) (fun hHeld => ?_)
 rw [<- hwd] at hHeld ⊢
 clear hwd
 refine qth 0 18 ?_
 simp only [qz0,qz1]
 refine held_take (i:=1) (v:=?_) 19 rfl (by kernel_rfl) (by kernel_rfl) (by kernel_rfl) (fun _ _ _ h => h) rfl (by assumption) (Or.inl ⟨by rfl,?_⟩) ?_
 rotate_left
 ·intro w hSw; have c:=(hMk.below hSw).2; have c4:=c 4 _ rfl; clear c; go_simp; (try with_reducible rfl)
 simp only [List.set_cons_zero,List.set_cons_succ]
 refine qth 2 20 ?_
 simp only [qz0,qz1]
 refine held_take (i:=3) (v:=?_) 21 rfl (by kernel_rfl) (by kernel_rfl) (by kernel_rfl) (fun _ _ _ h => h) rfl (by assumption) (Or.inl ⟨by rfl,?_⟩) ?_
 rotate_left
 ·intro w hSw; have c:=(hPl.below hSw).2; have c0:=c 0 _ rfl; have c1:=c 1 _ rfl; have c2:=c 2 _ rfl; clear c; go_simp; (try with_reducible rfl)
 simp only [List.set_cons_zero,List.set_cons_succ]
 refine wpAnyH_ready (rs:=[4]) (by kernel_rfl) (by simp) ?_
 refine (AllReadyH.cons rfl (fun K hK => ?_) AllReadyH.nil)
 go_simp
 refine (room_ok s p g _ HPL.out).mono ?_
 rintro e w1x ⟨rfl,hb⟩
 have hbt:=HB.trans hHeld hb
 have hPl:=hPl.below hbt
 have hMk:=hMk.below hbt
 have hH:=hH.below hbt
 have hT:=hT.below hbt
 have hE:=hE.step hbt
 go_wp2_with fail
 refine hK.out _ _ hbt (fun _ => held_next hbt (fun hHeld2 => ?_))
 clear hK hHeld hb hbt K
 have hHeld:=hHeld2
 clear hHeld2
 refine qth 5 23 ?_
 simp only [qz0,qz1]
 refine qth 6 17 ?_
 simp only [qz0,qz1]
 refine wpAnyH_done (by kernel_rfl) ?_ _
 have c:=hPl.2
 have q0:=c 0 _ rfl
 have q1:=c 1 _ rfl
 have q2:=c 2 _ rfl
 clear c
 have c:=hMk.2
 have n0:=c 0 _ rfl
 have n1:=c 1 _ rfl
 have n2:=c 2 _ rfl
 have n3:=c 3 _ rfl
 have q4:=c 4 _ rfl
 clear c
 have hlP:=hPl.1
 have hlM:=hMk.1
 clear hPl hMk hHeld
 go_wp2_with fail
 refine (wnew_any _).mono ?_
 rintro e w3 ⟨rfl,hW1,hb1⟩
 have hI : WI w1x w1x.heap.size w1x.heap.size w3 []:=⟨(Ext.refl w1x).step hb1,none,hW1⟩
 obtain ⟨q,hq⟩:=qnm w1x.heap.size
 rw [<- hq] at hI hlP hlM ⊢
 have HQ:=qh hq
 clear hW1 hb1 hq
 have d0:=hI.cell hlM n0
 go_wp2_with fail
 refine (wlong_ok G hI (by simp; unfold big; decide)).mono ?_
 rintro e w4 ⟨rfl,hI⟩
 have d1:=hI.cell hlM n1
 clear d0
 go_wp2_with fail
 refine (wlong_ok Q hI (by simp [be_length]; unfold big; decide)).mono ?_
 rintro e w5 ⟨rfl,hI⟩
 have d2:=hI.cell hlM n2
 clear d1
 go_wp2_with fail
 refine (wshort_ok SN hI (by omega) (by simp [be_length]; unfold big; decide)).mono ?_
 rintro e w6 ⟨rfl,hI⟩
 have d3:=hI.cell hlM n3
 have hHq:=hI.1.bs HQ.out.symm hH
 clear d2
 go_wp2_with fail
 refine (wraw_ok hI hHq (by simp [be_length]; unfold big; decide)).mono ?_
 rintro e w7 ⟨rfl,hI⟩
 have d4:=hI.cell hlM q4
 clear d3 hHq
 go_wp2_with fail
 refine (wlong_ok lt hI (by simp [be_length,HR6.out]; unfold big; decide)).mono ?_
 rintro e w8 ⟨rfl,hI⟩
 have e1 : [] ++ be G 8 ++ be Q 8 ++ be SN 2 ++ H ++ be lt 8 = ptHead G Q SN H T.length:=by simp [ptHead,HLT.out]
 rw [e1] at hI
 clear e1 d4
 have hln:=HLN.out
 generalize ptHead G Q SN H T.length = X at *
 go_wp2_with fail
 refine (wdone_ok hI (by rw [hln]; unfold big; decide)).mono ?_
 rintro e w9 ⟨a8,c8,rfl,_,hB8,hI⟩
 rw [hln] at hB8
 go_wp2_with fail
 refine (sum_any _ _ _ _ _ hB8).mono ?_
 rintro e w10 ⟨rfl,rfl⟩
 have hcl:=crcMore_lt 0 X
 generalize crcMore 0 X = c at *
 clear hB8
 have hS1:=wshort_ok (c / 65536) hI (by omega) (by rw [hln]; unfold big; decide)
 rw [show ((c / 65536 : Nat) : Int) = (c : Int) / 65536 by omega] at hS1
 go_wp2_with fail
 refine hS1.mono ?_
 rintro e w11 ⟨rfl,hI⟩
 clear hS1
 go_wp2_with fail
 refine (wshort_ok c hI (by omega) (by rw [List.length_append,hln,be_length]; unfold big; decide)).mono ?_
 rintro e w12 ⟨rfl,hI⟩
 have hl12 : (X ++ be (c / 65536) 2 ++ be c 2).length = 62:=by rw [List.length_append,List.length_append,hln,be_length,be_length]
 have HY:=qh (show (X ++ be (c / 65536) 2 ++ be c 2) ++ sha T ++ T ++ List.replicate k 0 = X ++ (be (c / 65536) 2 ++ (be c 2 ++ (sha T ++ (T ++ List.replicate k 0)))) by simp only [List.append_assoc])
 generalize X ++ be (c / 65536) 2 ++ be c 2 = Y at *
 have d4:=hI.cell hlM q4
 have hTq:=hI.1.bs HQ.out.symm hT
 go_wp2_with fail
 refine (shasum_any _ _ _ _ _ hTq (by omega)).mono ?_
 rintro e w13 ⟨v13,rfl,ho,hb⟩
 obtain ⟨a13,c13,rfl,hS13⟩:=ho.bsn (n:=32) (sha_length _)
 have hI:=hI.below hb
 have hsl:=sha_length T
 generalize sha T = ST at *
 clear hb ho d4 hTq
 go_wp2_with fail
 refine (wraw_ok hI hS13 (by rw [hl12]; unfold big; decide)).mono ?_
 rintro e w14 ⟨rfl,hI⟩
 have d4:=hI.cell hlM q4
 have hTq:=hI.1.bs HQ.out.symm hT
 have hl14 : (Y ++ ST).length = 94:=by rw [List.length_append,hl12,hsl]
 clear hS13
 go_wp2_with fail
 refine (wraw_ok hI hTq (by rw [hl14]; unfold big; omega)).mono ?_
 rintro e w15 ⟨rfl,hI⟩
 have d4:=hI.cell hlM q4
 have d0:=hI.cell hlP q0
 have d1:=hI.cell hlP q1
 have d2:=hI.cell hlP q2
 have hl15 : (Y ++ ST ++ T).length = 94 + lt:=by rw [List.length_append,hl14,HLT.out]
 have hI:=hI.drew
 clear hTq
 go_upto_region 18 with fail
 refine heldB_start (fun _ => true) (fun w' => w'.cell? ⟨B,0,none⟩ = some (.int .i64 s) /\ w'.cell? ⟨B,1,none⟩ = some (.int .i64 p) /\ w'.cell? ⟨B,2,none⟩ = some (.int .i64 g) /\ w'.cell? ⟨B + 1,4,none⟩ = some (.slice al lt ct)) (by kernel_rfl) ⟨d0,d1,d2,d4⟩ (fun hHeld => ?_)
 refine heldB_take (i:=0) (v:=?_) 68 rfl (by kernel_rfl) (by kernel_rfl) (by kernel_rfl) (by kernel_rfl) (fun _ _ _ h => h) rfl (by assumption) (Or.inl ⟨by rfl,?_⟩) ?_
 rotate_left
 ·intro w hSw; go_simp; (try with_reducible rfl)
 simp only [List.set_cons_zero,List.set_cons_succ]
 refine heldB_take (i:=3) (v:=?_) 71 rfl (by kernel_rfl) (by kernel_rfl) (by kernel_rfl) (by kernel_rfl) (fun _ _ _ h => h) rfl (by assumption) (Or.inl ⟨by rfl,?_⟩) ?_
 rotate_left
 ·intro w hSw; go_simp; (try with_reducible rfl)
 simp only [List.set_cons_zero,List.set_cons_succ]
 refine heldB_take (i:=1) (v:=?_) 69 rfl (by kernel_rfl) (by kernel_rfl) (by kernel_rfl) (by kernel_rfl) (fun _ _ _ h => h) rfl (by assumption) (Or.inl ⟨by rfl,?_⟩) ?_
 rotate_left
 ·intro w hSw; obtain ⟨x0,x1,x2,x4⟩:=hSw; go_simp; (try with_reducible rfl)
 simp only [List.set_cons_zero,List.set_cons_succ]
 refine heldB_take (i:=4) (v:=?_) 72 rfl (by kernel_rfl) (by kernel_rfl) (by kernel_rfl) (by kernel_rfl) (fun _ _ _ h => h) rfl (by assumption) (Or.inl ⟨by rfl,?_⟩) ?_
 rotate_left
 ·intro w hSw; obtain ⟨x0,x1,x2,x4⟩:=hSw; go_simp; (try with_reducible rfl)
 simp only [List.set_cons_zero,List.set_cons_succ]
 refine heldB_take (i:=5) (v:=?_) 73 rfl (by kernel_rfl) (by kernel_rfl) (by kernel_rfl) (by kernel_rfl) (fun _ _ _ h => h) rfl (by assumption) (Or.inl ⟨by rfl,?_⟩) ?_
 rotate_left
 ·intro w hSw; go_simp; (try with_reducible rfl)
 simp only [List.set_cons_zero,List.set_cons_succ]
 refine qone 2 fun K hK => ?_
 go_simp
 refine (room_ok s p g _ HPL.out).mono ?_
 rintro e w19 ⟨rfl,hb⟩
 have hI:=hI.below hb
 clear hHeld
 have hHeld : (fun w' => w'.cell? ⟨B,0,none⟩ = some (.int .i64 s) /\ w'.cell? ⟨B,1,none⟩ = some (.int .i64 p) /\ w'.cell? ⟨B,2,none⟩ = some (.int .i64 g) /\ w'.cell? ⟨B + 1,4,none⟩ = some (.slice al lt ct)) w19:=⟨hI.cell hlP q0,hI.cell hlP q1,hI.cell hlP q2,hI.cell hlM q4⟩
 go_wp2_with fail
 refine hK.out _ _ (fun _ => hHeld) ?_
 clear hK K hb
 refine heldB_take (i:=6) (v:=?_) 74 rfl (by kernel_rfl) (by kernel_rfl) (by kernel_rfl) (by kernel_rfl) (fun _ _ _ h => h) rfl (by assumption) (Or.inl ⟨by rfl,?_⟩) ?_
 rotate_left
 ·intro w hSw; go_simp; (try with_reducible rfl)
 simp only [List.set_cons_zero,List.set_cons_succ]
 refine qone 7 fun K hK => ?_
 have hrun:=run_make_bytes k (by omega) w19
 have hZ:=(Row.zero w19 k (by unfold maxLen; omega)).bs
 rw [List.length_replicate] at hZ
 have hI:=hI.below ((Below.refl _ _).alloc (Nat.le_refl _) (.cells (madeCells #[.int .u8 0] k) TB))
 go_simp
 generalize w19.alloc (.cells (madeCells #[.int .u8 0] k) TB) = w20 at *
 clear hHeld
 have hHeld : (fun w' => w'.cell? ⟨B,0,none⟩ = some (.int .i64 s) /\ w'.cell? ⟨B,1,none⟩ = some (.int .i64 p) /\ w'.cell? ⟨B,2,none⟩ = some (.int .i64 g) /\ w'.cell? ⟨B + 1,4,none⟩ = some (.slice al lt ct)) w20:=⟨hI.cell hlP q0,hI.cell hlP q1,hI.cell hlP q2,hI.cell hlM q4⟩
 refine hK.out _ _ (fun _ => hHeld) ?_
 clear hK K hrun
 refine qone 8 fun K hK => ?_
 go_simp
 refine (wraw_ok hI hZ (by rw [hl15]; unfold big; omega)).mono ?_
 rintro e w21 ⟨rfl,hI⟩
 clear hHeld
 have hHeld : (fun w' => w'.cell? ⟨B,0,none⟩ = some (.int .i64 s) /\ w'.cell? ⟨B,1,none⟩ = some (.int .i64 p) /\ w'.cell? ⟨B,2,none⟩ = some (.int .i64 g) /\ w'.cell? ⟨B + 1,4,none⟩ = some (.slice al lt ct)) w21:=⟨hI.cell hlP q0,hI.cell hlP q1,hI.cell hlP q2,hI.cell hlM q4⟩
 go_wp2_with fail
 refine hK.out _ _ (fun _ => hHeld) ?_
 clear hK K hHeld hZ
 refine qdon ?_
 rw [HY.out,<- HX.out] at hI
 obtain ⟨Z,hZe⟩:=qnm (ptBytes p.toNat ⟨G,Q,(SN : Int),H,T⟩)
 have h1:=HLT.out
 have hl : Z.length <= 900000:=by rw [hZe,HX.out]; simp only [List.length_append,be_length,List.length_replicate]; omega
 rw [<- hZe] at hI
 have HZ:=qh hZe
 clear hZe
 go_wp2_with fail
 refine (wdone_ok hI (by unfold big; omega)).mono ?_
 rintro e w22 ⟨a22,c22,rfl,ho,_,hI2⟩
 go_wp2_with fail
 go_ret2
 have hE2:=hE.to (hI2.1.1.mono (by rw [HQ.out]; exact hE.2))
 exact ⟨.slice a22 Z.length c22,rfl,by rw [<- HZ.out,<- HB0.out]; exact ho.base (hE.to (hI.1.1.mono (by rw [HQ.out]; exact hE.2))).2,by rw [<- HB0.out]; exact hE2.1⟩
theorem Own.blk {w : World} {B : Nat} {v : Value} {xs : List UInt8} (h : Own w B v xs) : ∀ k,v.ownBlock = some k -> B <= k:=by
 intro k hk
 rcases h.parts with ⟨rfl,_⟩ | ⟨g,c,rfl,h1,_⟩
 ·simp [Value.ownBlock] at hk
 ·simp [Value.ownBlock] at hk; omega
end
section
open Go.RowKit
variable {R : World -> List UInt8 × Nat -> Prop} {TO TA : TypeId} {w : World} {H q O A : Nat} {C K Z : Array Value} {T : List UInt8 × Nat} {wx : World}
theorem lt_of_heap {w : World} {b : Nat} {o : Obj} (h : w.heap[b]? = some o) : b < w.heap.size:=(Array.getElem?_eq_some_iff.1 h).1
theorem frozen_at {w : World} {b : Nat} {cs : Array Value} {t : TypeId} (h : w.heap[b]? = some (.cells cs t (0,0))) (i : Nat) : w.frozen? ⟨b,i,none⟩ = false:=by
 simp [World.frozen?,h]
theorem Own.setOther {w : World} {B : Nat} {v : Value} {xs : List UInt8} (h : Own w B v xs) {p : Addr} (hp : ∀ b,v.ownBlock = some b -> b ≠ p.block) (u : Value) : Own (w.setCell p u) B v xs:=by
 rcases h.parts with ⟨rfl,rfl⟩ | ⟨g,cap,rfl,hB,hr⟩
 ·exact Own.nil _ _
 ·exact Own.of_row (hr.setOther (hp g rfl) u) hB
theorem rnew_lt (a : Option Addr) (len cap : Nat) (xs : List UInt8) (w : World) (h : Bs w a len cap xs) (hl : len <= big) :
  Calls Tryz.prog 144 #[.slice a len cap] w fun e w' => ∃ q rb,e = .returned (.pointer (some ⟨q,0,none⟩)) /\ Rd w' w.heap.size q rb xs 0 /\ Below w.heap.size w w' /\ ∀ k,rb = some k -> k < w'.heap.size:=by
 go_enter Tryz.func144,Tryz.ntmps144
 go_wp2_with fail
 refine (clone_any a len cap xs _ h hl).mono ?_
 rintro e w1 ⟨v,rfl,ho,hbl⟩
 have hs:=hbl.size
 rcases ho.parts with ⟨rfl,rfl⟩ | ⟨g,c',rfl,hg,hr⟩
 ·go_wp2_with fail
  go_ret
  exact ⟨_,none,rfl,⟨hs,none,0,heap_alloc_new w1 _,Bs.nil _,rfl,by simp,by simp⟩,((Ext.refl w).step hbl |>.alloc _).1,by simp⟩
 ·have hrl:=hr.lt
  go_wp2_with fail
  go_ret
  exact ⟨_,some g,rfl,⟨hs,_,c',heap_alloc_new w1 _,(hr.alloc _).bs,rfl,by simp; omega,by simp; omega⟩,((Ext.refl w).step hbl |>.alloc _).1,by simp; omega⟩
end
end Go.Proofs.YtabdcphioccgnaaGreatDoor
