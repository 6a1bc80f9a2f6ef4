/- Base; CrcFns; CrcLaw; TailB; Held; HeldB; Within; Cut; Crc; LayOf. -/
import Derived.BigQuiet
import Derived.Deep.DeepFit
import Derived.Deep.Quiet
import Derived.Deep.RegionHeld3
import Derived.Deep.RegionWith
import Derived.Lib.Hide
import Derived.Lib.SlBytesConst
import Derived.StillTailTactics
import Derived.Test.YtbemfdcjieakdaaGreatDoorProg
import Derived.WalkKit
set_option maxRecDepth 100000
set_option maxHeartbeats 8000000
namespace Go.Proofs.YtbemfdcjieakdaaGreatDoor
section
open Go.RowKit
abbrev Aa:=@Nat.le_refl
abbrev Ab:=@Go.RowKit.Below.refl
abbrev Ad:=@Nat.le_trans
abbrev Ae:=@Go.heap_alloc_new
abbrev Af:=@List.length_append
abbrev Ag:=@if_neg
abbrev Ah:=@if_pos
abbrev Ai:=@Nat.lt_of_lt_of_le
abbrev Aj:=@Go.bodyPost_ret
abbrev Ak:=@Go.IntWalk.i64_in
abbrev Al:=@beq_eq_false_iff_ne
abbrev Am:=@List.take_of_length_le
abbrev An:=@congrArg
abbrev Ao:=@Go.wpList_store_row
abbrev Ap:=@Go.results_cell_row
abbrev Aq:=@decide_eq_false
abbrev Ar:=@List.take_succ_eq_append_getElem
abbrev As:=@Nat.le_succ
abbrev Au:=@List.map_cons
abbrev Av:=@List.length_take
abbrev Aw:=@List.setIfInBounds_toArray
abbrev Ax:=@List.length_eq_zero_iff
abbrev Ay:=@List.length_nil
abbrev Az:=@Go.World.cell?_alloc_mark
abbrev AA:=@List.length_cons
abbrev AB:=@decide_eq_true
abbrev AC:=@List.length_map
abbrev AD:=@Nat.zero_add
abbrev AE:=@List.getElem_mem
abbrev AF:=@Go.setRow_heap
abbrev AG:=@List.getElem?_eq_some_iff
abbrev AH:=@Nat.zero_le
abbrev AI:=@List.mem_cons_of_mem
abbrev AJ:=@List.nil_append
abbrev AK:=@Go.wpStill_nil
abbrev AL:=@List.mem_cons_self
abbrev AM:=@List.getElem?_append_right
abbrev AN:=@Nat.mod_eq_of_lt
abbrev AO:=@Go.AllReadyH.cons
abbrev AP:=@List.mem_cons
abbrev AQ:=@List.mem_singleton
abbrev AR:=@Go.World.size_alloc
abbrev AS:=@List.getElem?_take
abbrev AT:=@List.flatten_append
abbrev AU:=@Option.map_eq_some_iff
abbrev AV:=@Bool.false_eq_true
abbrev AW:=@Go.RowKit.Below.heap_alloc
abbrev AX:=@List.mem_map
abbrev AY:=@List.map_congr_left
abbrev AZ:=@List.map_append
abbrev A0:=@Go.rounds_succ
abbrev A1:=@Go.World.ownsRow.cellAt
abbrev A2:=@List.pairwise_map
abbrev A5:=@Go.RowKit.Below.heap_setCell
abbrev A6:=@Go.World.ownsRow_nil
abbrev A7:=@List.getElem?_append_left
abbrev A8:=@Go.World.ownsRow.lt
abbrev A9:=@List.length_singleton
abbrev Ba:=@List.length_replicate
abbrev Bb:=@Go.IntWalk.u64_in
abbrev Bc:=@List.pairwise_cons
abbrev Bd:=@Go.callsIn_wide
abbrev Be:=@List.cons_append
abbrev Bf:=@List.map_nil
abbrev Bg:=@List.flatten_cons
abbrev Bh:=@List.drop_eq_nil_of_le
abbrev Bi:=@List.getElem_of_mem
abbrev Bj:=@Go.AllReadyH.nil
abbrev Bk:=@List.take_left'
abbrev Bl:=@Bool.eq_iff_iff
abbrev Bm:=@List.drop_eq_getElem_cons
abbrev Bn:=@Go.wpAnyH_done
abbrev Bo:=@List.getElem?_eq_none
abbrev Bp:=@Option.isSome_some
abbrev Bq:=@Option.isSome_none
abbrev Br:=@List.all_eq_true
abbrev Bt:=@Nat.le_of_lt
abbrev Bu:=@UInt32.or_comm
abbrev Bv:=@List.mem_of_mem_take
abbrev Bw:=@List.eq_nil_of_length_eq_zero
abbrev Bx:=@Go.wpAnyH_ready
abbrev By:=@List.append_nil
abbrev Bz:=@bne_eq_false_iff_eq
abbrev BA:=@List.set_append_right
abbrev BB:=@List.getElem?_toArray
abbrev BC:=@Go.World.ownsRow.kept
abbrev BD:=@of_decide_eq_true
abbrev BE:=@Nat.lt_or_ge
abbrev BF:=@List.mem_of_getLast?
abbrev BG:=@bne_iff_ne
abbrev BH:=@List.take_append_getElem
abbrev BI:=@List.getElem_append_left
abbrev BJ:=@Go.Result.andThen_ok
abbrev BK:=@List.map_uncurry_zip_eq_zipWith
abbrev BL:=@List.take_succ_cons
abbrev BM:=@List.drop_succ_cons
abbrev BN:=@List.take_zero
abbrev BO:=@List.map_toArray
abbrev BP:=@List.drop_zero
abbrev BQ:=@Go.wp_loop_rounds
abbrev BR:=@if_true
abbrev BS:=@Nat.eq_zero_or_pos
abbrev BT:=@Nat.add_zero
abbrev BU:=@List.map_map
abbrev BW:=@Go.RowKit.Below.size
abbrev BX:=@Go.wpList_plain
abbrev BY:=@Go.setRow_other
abbrev BZ:=@Option.some.injEq
abbrev B2:=@Nat.pow_le_pow_right
abbrev B3:=@List.lt_irrefl
abbrev B4:=@List.length_eraseIdx
abbrev B5:=@Bool.not_false
abbrev B6:=@Array.replicate_zero
abbrev B7:=@Array.replicate_succ
abbrev B8:=@Option.getD_some
abbrev B9:=@List.length_drop
abbrev Ca:=@Bool.and_eq_true
abbrev Cb:=@Go.wp_region_still_tail
abbrev Cc:=@Go.World.cell?_of_block
abbrev Cd:=@List.getElem_append_right
abbrev Ce:=@List.filter_eq_self
abbrev Cf:=@List.append_toArray
abbrev Cg:=@Prod.mk.injEq
abbrev Ch:=@Nat.lt_irrefl
abbrev Ci:=@List.sum_cons
abbrev Cj:=@UInt8.toNat_inj
abbrev Ck:=@List.mem_filter
abbrev Cl:=@List.drop_left'
abbrev Cm:=@decide_eq_true_iff
abbrev Cn:=@Nat.add_sub_cancel_left
abbrev Co:=@List.size_toArray
abbrev Cp:=@List.push_toArray
abbrev Cq:=@List.getElem?_map
abbrev Cr:=@Go.Sem.run_pure
abbrev Cs:=@Go.Sem.run_bind
abbrev Ct:=@Option.getD_none
abbrev Cu:=@Bool.and_true
abbrev Cv:=@if_false
abbrev Cw:=@List.drop_append_of_le_length
abbrev Cx:=@Function.comp_apply
abbrev Cy:=@Nat.mul_comm
abbrev Cz:=@beq_iff_eq
abbrev CA:=@List.getElem?_drop
abbrev CB:=@List.find?_eq_none
abbrev CD:=@List.drop_drop
abbrev CE:=@Int.emod_lt_of_pos
abbrev CF:=@Go.results_none
abbrev CG:=@Go.Lib.run_convert_bytes_const
theorem qh {p : Prop} (h : p) : Hid p := h
theorem aI {a b : Prop} (x : a) (y : b) : a /\ b := ⟨x, y⟩
theorem qnm {α : Sort _} (x : α) : ∃ y, y = x := ⟨x, rfl⟩
theorem qba {w v : World} {o : Obj} (h : v = w.alloc o) : Below w.heap.size w v := by rw [h]; exact (Ab _ _).alloc (Aa _) _
theorem qz {α : Type _} : (∀ (x : α) (xs : List α) (a : α), (x :: xs).set 0 a = a :: xs) /\ ∀ (x : α) (xs : List α) (n : Nat) (a : α), (x :: xs).set (n + 1) a = x :: xs.set n a := ⟨fun _ _ _ => List.set_cons_zero, fun _ _ _ _ => List.set_cons_succ⟩
theorem qge {α : Type _} : (∀ (l : List α) (i : Nat), l.toArray[i]? = l[i]?) /\ (∀ (x : α) (l : List α), (x :: l)[0]? = some x) /\ ∀ (x : α) (l : List α) (n : Nat), (x :: l)[n + 1]? = l[n]? := ⟨fun _ _ => BB, fun _ _ => List.getElem?_cons_zero, fun _ _ _ => List.getElem?_cons_succ⟩
theorem qtc : (∀ {α : Type} (a : α) (n : Nat) (l : List α), (a :: l).take (n + 1) = a :: l.take n) /\ (∀ {α : Type} (l : List α), l.take 0 = []) /\ (∀ {α : Type} (a : α) (n : Nat) (l : List α), (a :: l).drop (n + 1) = l.drop n) /\ (∀ {α : Type} (l : List α), l.drop 0 = l) /\ (∀ {α β : Type} (f : α -> β) (a : α) (l : List α), (a :: l).map f = f a :: l.map f) /\ ∀ {α β : Type} (f : α -> β), ([] : List α).map f = [] := ⟨fun _ _ _ => BL, fun _ => BN, fun _ _ _ => BM, fun _ => BP, fun _ _ _ => Au, fun _ => Bf⟩
theorem a0F{k:IntKind}{a b:Int}(h:a=b):Ending.returned (.int k a)= .returned (.int k b):=by rw[h]
theorem a2A{a b:Bool}(h:a=b):Ending.returned (.bool a)= .returned (.bool b):=by rw[h]
theorem a3S{W a:World}(c:Below W.heap.size W a):(∀b o,b<W.heap.size->a.cell? ⟨b,o,none⟩=W.cell? ⟨b,o,none⟩)/\(∀b o,b<W.heap.size->a.frozen? ⟨b,o,none⟩=W.frozen? ⟨b,o,none⟩):=
 ⟨fun b o h=>c.cell (p:=⟨b,o,none⟩) h,fun b o h=>c.frozen (p:=⟨b,o,none⟩) h⟩
def Ext(B:Nat)(a w:World):Prop:=Below B a w/\B<=w.heap.size
theorem Ext.refl(w:World):Ext w.heap.size w w:=⟨Ab _ _,Aa _⟩
theorem Ext.alloc{B:Nat}{a w:World}(h:Ext B a w)(o:Obj):Ext B a (w.alloc o):=⟨h.1.alloc h.2 o,by have:=h.2;simp;omega⟩
theorem Ext.step{B:Nat}{a w w':World}(h:Ext B a w)(b:Below w.heap.size w w'):Ext B a w':=⟨h.1.trans (b.mono h.2),Ad h.2 b.size⟩
theorem Ext.drew{B:Nat}{a w:World}(h:Ext B a w):Ext B a w.drew:=⟨h.1.drew,h.2⟩
theorem Ext.setCell{B:Nat}{a w:World}(h:Ext B a w){p:Addr}(b:B<=p.block)(u:Value):Ext B a (w.setCell p u):=⟨h.1.setCell b u,by have:=h.2;simpa[World.setCell] using this⟩
noncomputable def World.over (w x:World):World:=open Classical in if Below w.heap.size w x then x else w
theorem a3n(w x:World):Below w.heap.size w (World.over w x):=by
 unfold World.over;split
 ·assumption
 ·exact Ab _ _
theorem b7w{w x:World}(h:Below w.heap.size w x):x=World.over w x:=by unfold World.over;rw[Ah h]
@[simp,go_sem] theorem b8g (w x:World) (b o:Nat) (h:b<w.heap.size):(World.over w x).cell? ⟨b,o,none⟩=w.cell? ⟨b,o,none⟩:=(a3n w x).cell (p:=⟨b,o,none⟩) h
theorem a4f{P:Program}{id:Nat}{l:List Oper}{Q:Exit->Act->World->Prop}{a:Act}{w:World}(b:P.follows .mixedOrders=true)(d:Region.lexB .any l.toArray=true)
  (h:wpQuiet P l.toArray (fun w'=>∃n,w'=World.over w n) (fun c=>∀w',(∃n,w'=World.over w n)->Q .normal c w') l a):(Code.region id l.toArray true).wp P Q a w:=
 wp_region_quiet (C:=fun w'=>∃n,w'=World.over w n) b d ⟨_,b7w (Below.drew (Ab _ _))⟩ (by simpa using h)
theorem a6m{P:Program}{f:FuncId}{args:Array Value}{w:World}{n:World}{v:Value}
  (h:Calls P f args (World.over w n) fun e w'=>e= .returned v/\World.over w n=w'):Calls P f args (World.over w n) fun e a=>e= .returned v/\∃m,a=World.over w m:=
 h.mono fun _ _ ⟨c,b⟩=>⟨c,n,b.symm⟩
def Bs(w:World)(a:Option Addr)(c cap:Nat)(xs:List UInt8):Prop:=
 xs.length=c/\c<=cap/\cap<=maxLen/\(c=0∨∃b off,a=some ⟨b,off,none⟩/\b<w.heap.size/\
  ∀i (h:i<xs.length),w.cell? ⟨b,off+i,none⟩=some (.int .u8 (xs[i].toNat:Int)))
theorem Bs.below{w w':World}{a:Option Addr}{d cap:Nat}{xs:List UInt8}(h:Bs w a d cap xs)(f:Below w.heap.size w w'):Bs w' a d cap xs:=by
 obtain⟨j,k,h3,c⟩:=h;refine⟨j,k,h3,?_⟩;rcases c with c | ⟨b,off,c,e,g⟩
 ·exact .inl c
 ·exact .inr ⟨b,off,c,Ai e f.size,fun i l=>by rw[f.cell (p:=⟨b,off+i,none⟩) e];exact g i l⟩
theorem Bs.alloc{w:World}{a:Option Addr}{b cap:Nat}{xs:List UInt8}(h:Bs w a b cap xs)(o:Obj):Bs (w.alloc o) a b cap xs:=h.below ((Ab _ _).alloc (Aa _) o)
theorem Bs.drew{w:World}{a:Option Addr}{b cap:Nat}{xs:List UInt8}(h:Bs w a b cap xs):Bs w.drew a b cap xs:=h.below (Ab _ _).drew
theorem Bs.nil(w:World):Bs w none 0 0 []:=⟨rfl,Aa _,by simp[maxLen],.inl rfl⟩
theorem Bs.take{w:World}{a:Option Addr}{c cap:Nat}{xs:List UInt8}(h:Bs w a c cap xs){k:Nat}(hk:k<=c):Bs w a k cap (xs.take k):=by
 obtain⟨j,l,h3,d⟩:=h;refine⟨by simp;omega,by omega,h3,?_⟩;rcases d with d | ⟨b,off,d,e,f⟩
 ·exact .inl (by omega)
 ·exact .inr ⟨b,off,d,e,fun i g=>by simp at g;rw[f i (by omega)];simp⟩
theorem Bs.drop{w:World}{a:Option Addr}{c cap:Nat}{xs:List UInt8}(h:Bs w a c cap xs){k:Nat}(hk:k<=c):Bs w (if cap=k then a else a.map (·.add k)) (c - k) (cap - k) (xs.drop k):=by
 obtain⟨m,n,h3,d⟩:=h;refine⟨by simp;omega,by omega,by omega,?_⟩;rcases d with d | ⟨b,off,d,f,g⟩
 ·exact .inl (by omega)
 ·by_cases j:cap=k
  ·exact .inl (by omega)
  ·rw[Ag j,d];refine .inr ⟨b,off+k,?_,f,fun i l=>by simp at l;rw[Nat.add_assoc,g (k+i) (by omega)];simp⟩;by_cases e:k=0 <;>simp [Addr.add,e]
def bv(x:UInt8):Value:=.int .u8 (x.toNat:Int)
theorem Bs.newRow(w:World)(C:Array Value)(e:TypeId)(d:Nat×Nat)(n cap:Nat)(xs:List UInt8)(f:xs.length=n)(h:n<=cap)(a:cap<=maxLen)
  (c:C.toList.take n=xs.map bv):Bs (w.alloc (.cells C e d)) (some ⟨w.heap.size,0,none⟩) n cap xs:=by
 refine⟨f,h,a,.inr ⟨_,_,rfl,by simp,fun i g=>?_⟩⟩;rw[Az,AD];have b:=An (·[i]?) c;simp only[AS,Cq] at b;rw[Ah (by omega)] at b;rw[<-Array.getElem?_toList,b];simp[bv,g]
def b4K(n:Int):UInt8:=UInt8.ofNat n.toNat
theorem a9A{n:Int}(h:(Lit.int .u8 n).wf=true):((b4K n).toNat:Int)=n:=by
 have a:0<=n/\n<256:=by simp[Lit.wf,IntKind.min,IntKind.max,IntKind.bits,IntKind.signed] at h;omega
 unfold b4K;rw[UInt8.toNat_ofNat'];omega
def a2e(n a b:Int):Int:=a+n % (b - a+1)
theorem a9N(n m:Int)(a:0<m): -m<n.tmod m/\n.tmod m<m:=by
 rw[Int.tmod_eq_emod];have b:=Int.emod_nonneg n (show m≠0 by omega);have c:=CE n a;split <;>omega
theorem b5k(n m:Int)(a:0<m)(h:n.tmod m<0):n.tmod m+m=n % m:=by
 rw[Int.tmod_eq_emod] at *;have d:=Int.emod_nonneg n (show m≠0 by omega);have c:=CE n a;split at h <;>rename_i b <;>simp [b] <;>omega
theorem b0P(n m:Int)(a:0<m)(h:0<=n.tmod m):n.tmod m=n % m:=by
 rw[Int.tmod_eq_emod] at *;have d:=Int.emod_nonneg n (show m≠0 by omega);have c:=CE n a;split at h <;>rename_i b <;>simp [b] <;>omega
theorem a5W(n a hi:Int)(b:a<=hi):a<=a2e n a hi/\a2e n a hi<=hi:=by
 unfold a2e;have b:=Int.emod_nonneg n (show hi - a+1≠0 by omega);have c:=CE n (show 0<hi - a+1 by omega);omega
end
section
def crcStep(c:Nat):Nat:=if c % 2=1 then(c / 2) ^^^ 3988292384 else c / 2
def crcBits:Nat->Nat->Nat
 | 0,c=>c
 | n+1,c=>crcStep (crcBits n c)
def a8r(c:Nat)(x:UInt8):Nat:=crcBits 8 (c ^^^ x.toNat)
def a3B(c:Nat)(xs:List UInt8):Nat:=xs.foldl a8r c
def crcMore(c:Nat)(xs:List UInt8):Nat:=4294967295 - a3B (4294967295 - c) xs
theorem b2s{c:Nat}(h:c<4294967296):crcStep c<4294967296:=by
 unfold crcStep;split
 ·exact Nat.xor_lt_two_pow (n:=32) (by omega) (by omega)
 ·omega
theorem a7G{n c:Nat}(h:c<4294967296):crcBits n c<4294967296:=by
 induction n with
 | zero=>exact h
 | succ n a=>exact b2s a
theorem b2u{c:Nat}(x:UInt8)(h:c<4294967296):a8r c x<4294967296:=
 a7G (Nat.xor_lt_two_pow (n:=32) h (by have:=x.toNat_lt;omega))
theorem b2t{c:Nat}(xs:List UInt8)(h:c<4294967296):a3B c xs<4294967296:=by
 unfold a3B
 induction xs generalizing c with
 | nil=>exact h
 | cons x xs a=>exact a (b2u x h)
theorem a2j(c:Nat)(xs:List UInt8):crcMore c xs<4294967296:=by unfold crcMore;omega
theorem b25{α}(s:List α)(k:Nat)(h:k<s.length):s.take (k+1)=s.take k ++[s[k]]:=by
 rw[Ar h]
theorem a9w(c:Nat)(xs:List UInt8)(x:UInt8):a3B c (xs ++[x])=a8r (a3B c xs) x:=by simp[a3B]
theorem b3S(c:Nat)(h:c<4294967296):4294967295 ^^^ c=4294967295 - c:=by
 have b:(BitVec.allOnes 32 ^^^ BitVec.ofNat 32 c)= ~~~ (BitVec.ofNat 32 c):=by
  rw[BitVec.xor_comm,BitVec.xor_allOnes]
 have a:=An BitVec.toNat b;rw[BitVec.toNat_xor,BitVec.toNat_not,BitVec.toNat_ofNat,BitVec.toNat_allOnes,AN (by omega)] at a;simpa using a
theorem a8c(c:Nat)(h:c<4294967296):bits .xor .u32 IntKind.u32.max (c:Int)=((4294967295 - c:Nat):Int):=by
 have:IntKind.u32.max=((4294967295:Nat):Int):=by decide
 rw[this,u32_xor_nat _ _ (by omega) h,b3S c h]
theorem b6M(c:Nat)(h:c<4294967296):bits .and .u32 (c:Int) 1=((c % 2:Nat):Int):=by
 have:=u32_and_nat c 1 h (by omega);rw[Nat.and_one_is_mod] at this;simpa using this
def turned(xs:List UInt8)(k:Nat)(a:List UInt8)(m:Nat):List UInt8:=
 xs.take k ++(List.zipWith (· ^^^ ·) ((xs.drop k).take m) (a.take m) ++xs.drop (k+m))
end
section
open Go.RowKit
def a3E(o:Oper):Oper:={ dst:=o.dst,op:=o.op,type:=o.type,pos:=o.pos,after:=#[],guard:=o.guard }
def a2Z(l:List Oper):Bool:=l.all fun o=>o.guard.isNone
theorem a4N{o:Oper}{l:List Oper}(h:a2Z (o :: l)=true):o.guard=none/\a2Z l=true:=by
 simp only[a2Z,List.all_cons,Ca] at h;exact⟨by simpa using h.1,h.2⟩
theorem a4w{o:Oper}(h:o.guard=none)(f:Nat->Option Bool):Region.wanted o f=true:=by simp[Region.wanted,h]
theorem a5q{P:Program}{w:World}{Q b:Act->Prop}{c:Array Oper}(e:∀a,b a->Q a):∀(l:List Oper) (a:Act),a2Z l=true->wpStill P #[] w b (l.map a3E) a->wpStill P c w Q l a
 | [],a,_,h=>e a h
 | o :: l,a,hg,h=>by
  obtain⟨f,j⟩:=a4N hg;have i:(a3E o).still P a w (wpStill P #[] w b (l.map a3E)):=by
   have:Region.wanted (a3E o) (yielded #[] a.tmps)=true:=a4w f _;simpa only[Au,wpStill,this,BR] using h
  have d:o.still P a w (wpStill P #[] w b (l.map a3E)):=i;simp only[wpStill,a4w f,BR];exact Oper.still_mono (fun a g=>a5q e l a j g) d
theorem a5U{P:Program}{Q:Exit->Act->World->Prop}{c:Array Oper}:∀(l:List Oper) (a:Act) (w:World),a2Z l=true->wpList P #[] Q (l.map a3E) a w->wpList P c Q l a w
 | [],a,w,_,h=>h
 | o :: l,a,w,hg,h=>by
  obtain⟨d,f⟩:=a4N hg;have b:(a3E o).wp P a w (wpList P #[] Q (l.map a3E)) Q∨((a3E o).asks P a w/\LetsOut Q):=by
   have:Region.wanted (a3E o) (yielded #[] a.tmps)=true:=a4w d _;simpa only[Au,wpList,this,BR] using h
  simp only[wpList,a4w d,BR];rcases b with b | b
  ·have h3:o.wp P a w (wpList P #[] Q (l.map a3E)) Q:=b;exact .inl (Oper.wp_mono (fun a w e=>a5U l a w f e) h3)
  ·exact .inr b
theorem a0K{P:Program}{id:Nat}{Q:Exit->Act->World->Prop}{a:Act}{w:World}{l:List Oper}(n:Nat)(f:P.follows .mixedOrders=true)(j:Region.lexTailB .any l.toArray n=true)(c:a2Z l=true)
  (h:wpStill P #[] w.drew (fun e=>wpList P #[] Q ((l.drop n).map a3E) e w.drew) ((l.take n).map a3E) a):(Code.region id l.toArray true).wp P Q a w:=by
 have g:a2Z (l.take n)=true:=Br.2 fun o b=>Br.1 c o (Bv b)
 have i:a2Z (l.drop n)=true:=Br.2 fun o b=>Br.1 c o (List.mem_of_mem_drop b)
 exact Cb n f j (a5q (fun a d=>a5U _ a _ i d) _ _ g h)
def HB(w w':World):Prop:=Below w.heap.size w w'
theorem HB.refl(w:World):HB w w:=Ab _ _
theorem HB.trans{a b c:World}(h:HB a b)(k:HB b c):HB a c:=Below.trans h (Below.mono k (BW h))
theorem HB.alloc{a b:World}(h:HB a b)(o:Obj):HB a (b.alloc o):=h.trans ((Ab _ _).alloc (Aa _) o)
section
variable {P : Program} {md : Region.Mode} {ops : Array Oper} {Q : Exit → Act → World → Prop}
theorem a5V{S S':World->Prop}(e:∀w,S' w->S w):∀(c:Nat) (b:Array Bool) (a:Act) (w:World),wpAnyH P md ops Q S' c b a w->wpAnyH P md ops Q S c b a w
 | 0,_,_,_,h=>h
 | c+1,_,_,_,h=>⟨h.1,fun i g=>wpOp_mono (fun f w' d=>⟨e _ d.1,a5V e c _ f w' d.2⟩) (h.2 i g)⟩
theorem a2J{id:Nat}{a:Act}{w:World}(b:P.follows .mixedOrders=true)
  (h:HB w.drew w.drew->wpAnyH P .any ops Q (HB w.drew) ops.size (Array.replicate ops.size false) a w.drew):(Code.region id ops true).wp P Q a w:=
 wp_region_held_drew (S:=HB w.drew) b (HB.refl _) h
theorem a2r{c:Nat}{b:Array Bool}{a:Act}{w w2:World}(e:HB w w2)(h:HB w2 w2->wpAnyH P md ops Q (HB w2) c b a w2):wpAnyH P md ops Q (HB w) c b a w2:=
 a5V (fun _ d=>e.trans d) c b a w2 (h (HB.refl _))
theorem a9h{S:World->Prop}{i:Nat}(d:Nat){f:Oper}{v:Value}{e:Nat}{b:Array Bool}{l:List Value}{g:List Deferred}{w:World}(r:ops[i]? =some f)
  (q:Region.noSelect ops=true) (n:Region.free md ops b i=true) (p:(Region.ready md ops b).contains i=true)
  (j:∀c a w,Q (.panic c) (a.put f.dst v) w->Q (.panic c) a w) (o:f.dst=some d) (m:S w)
  (k:YieldsIf P ops S f v { tmps:=l.toArray,defers:=g })
  (h:wpAnyH P md ops Q S e (b.setIfInBounds i true) { tmps:=(l.set d v).toArray,defers:=g } w):wpAnyH P md ops Q S (e+1) b { tmps:=l.toArray,defers:=g } w:=by
 refine wpAnyH_take r q n p j k m ?_;rw[o];unfold Act.put;simp only[Aw];exact h
end
section
variable {P : Program} {md : Region.Mode} {ops : Array Oper} {Q : Exit -> Act -> World -> Prop} {S : World -> Prop}
theorem qth (i d : Nat) {oi : Oper} {v : Value} {fuel : Nat} {listed : Array Bool} {l l' : List Value} {ds : List Deferred} {w : World}
    (h : wpAnyH P md ops Q S fuel (listed.setIfInBounds i true) { tmps := l'.toArray, defers := ds } w) (hi : ops[i]? = some oi := by rfl)
    (hs : Region.noSelect ops = true := by kernel_rfl) (hf : Region.free md ops listed i = true := by kernel_rfl) (hr : (Region.ready md ops listed).contains i = true := by kernel_rfl)
    (hQ : ∀ c a w, Q (.panic c) (a.put oi.dst v) w -> Q (.panic c) a w := by exact fun _ _ _ h => h) (hd : oi.dst = some d := by rfl) (hS : S w := by assumption)
    (hy : YieldsIf P ops S oi v { tmps := l.toArray, defers := ds } := by exact Or.inl ⟨by rfl, by intro w hSw; (try dsimp only at hSw); go_simp; (try with_reducible rfl)⟩) (hl : l.set d v = l' := by simp only [qz]; exact rfl) : wpAnyH P md ops Q S (fuel + 1) listed { tmps := l.toArray, defers := ds } w :=
  a9h d hi hs hf hr hQ hd hS hy (by rw [hl]; exact h)
theorem qtv (i d : Nat) {oi : Oper} {fuel : Nat} {listed : Array Bool} {l l' : List Value} {ds : List Deferred} {w : World}
    (h : wpAnyH P md ops Q S fuel (listed.setIfInBounds i true) { tmps := l'.toArray, defers := ds } w) (hi : ops[i]? = some oi := by rfl)
    (hs : Region.noSelect ops = true := by kernel_rfl) (hf : Region.free md ops listed i = true := by kernel_rfl) (hr : (Region.ready md ops listed).contains i = true := by kernel_rfl)
    (hQ : ∀ c a w, Q (.panic c) (a.put oi.dst undef) w -> Q (.panic c) a w := by exact fun _ _ _ h => h) (hd : oi.dst = some d := by rfl) (hS : S w := by assumption) (hy : YieldsIf P ops S oi undef { tmps := l.toArray, defers := ds } := by exact Or.inr ⟨by rfl, rfl⟩) (hl : l.set d undef = l' := by simp only [qz]; exact rfl) : wpAnyH P md ops Q S (fuel + 1) listed { tmps := l.toArray, defers := ds } w :=
  a9h d hi hs hf hr hQ hd hS hy (by rw [hl]; exact h)
theorem qrd (i : Nat) {o : Oper} {fuel : Nat} {listed : Array Bool} {a : Act} {w : World}
    (h : ∀ K' : Act -> World -> Prop, Shut (∀ a w, S w -> (S w -> wpAnyH P md ops Q S fuel (listed.setIfInBounds i true) a w) -> K' a w) -> if Region.wanted o (yielded ops a.tmps) = true then Oper.wp P o a w K' Q else K' (a.put o.dst undef) w)
    (hr : Region.ready md ops listed = [i] := by kernel_rfl) (ho : ops[i]? = some o := by rfl) : wpAnyH P md ops Q S (fuel + 1) listed a w :=
  Bx hr (by simp) (AO ho h Bj)
end
section
variable {P : Program} {ops : Array Oper} {Q : Exit → Act → World → Prop} {md : Region.Mode} {S : World → Prop} {bef : Nat → Bool}
def a1h(P:Program)(md:Region.Mode)(ops:Array Oper)(Q:Exit->Act->World->Prop)(bef:Nat->Bool)(S:World->Prop):Nat->Array Bool->Act->World->Prop
 | 0,listed,a,w=>Region.ready md ops listed=[]/\Q .normal a w
 | fuel+1,listed,a,w=>
  (Region.ready md ops listed=[]->Q .normal a w)/\
  ∀i∈Region.ready md ops listed,wpOp P ops Q i (fun b w'=>(bef i=true->S w')/\a1h P md ops Q bef S fuel (listed.setIfInBounds i true) b w') a w
theorem a62:∀(c:Nat) (b:Array Bool) (a:Act) (w:World),a1h P md ops Q bef S c b a w->wpAny P md ops Q c b a w
 | 0,_,_,_,h=>h
 | c+1,_,_,_,h=>⟨h.1,fun i f=>wpOp_mono (fun d w' e=>a62 c _ d w' e.2) (h.2 i f)⟩
theorem a5r{Sy:World->Prop}{i:Nat}{y:Oper}{v:Value}(N:ops[i]? =some y)(x:∀(j:Nat) (o:Oper) J b,ops[j]? =some o->o.op≠ .select J b)
  (W:∀c a w,Q (.panic c) (a.put y.dst v) w->Q (.panic c) a w):
  ∀(g:Nat) (d:Array Bool) (a:Act) (w:World),
   (∀j m,ops[j]? =some m->j≠i->d.getD j true=false->(∀e∈m.after,Region.binds md e=true->e.on≠i)->y.apart ops m=true)->
   (((∀w,Sy w)/\bef i=false)∨((∀w,S w->Sy w)/\∀j m,ops[j]? =some m->d.getD j true=false->(∀e∈m.after,Region.binds md e=true->e.on≠i)->bef j=true))->
   i∈Region.ready md ops d->YieldsIf P ops Sy y v a->Sy w->(bef i=true->S w)->
   a1h P md ops Q bef S g (d.setIfInBounds i true) (a.put y.dst v) w->a1h P md ops Q bef S (g+1) d a w:=by
 intro g
 induction g with
 | zero=>
  intro d a w _ _ C L U E H;refine⟨fun h=>(by rw[h] at C;cases C),fun j K=>?_⟩;by_cases f:j=i
  ·subst f;exact L.wpOp N U ⟨E,H⟩
  ·have:=ready_mono K f;rw[H.1] at this;cases this
 | succ g Y=>
  intro d a w q hk C L U E H;refine⟨fun h=>(by rw[h] at C;cases C),fun j K=>?_⟩;by_cases f:j=i
  ·subst f;exact L.wpOp N U ⟨E,H⟩
  ·have z:=H.2 j (ready_mono K f);obtain⟨l,m,r,I⟩:=mem_ready.1 K;have n:∀e∈m.after,Region.binds md e=true->e.on≠i:=fun e Z E T=>by
    have z:=I e Z E;have V:=(mem_ready.1 C).1;rw[T] at z;rcases BE i d.size with O | O
    ·simp[O] at V z;rw[V] at z;cases z
    ·simp[Array.getElem?_eq_none O] at z
   have h2:=wpOp_putIf r (q j m r f l n) (fun J b=>x i y J b N) (fun J b=>x j m J b r) W L z;have u:∀k,(d.setIfInBounds j true).getD k true=false->d.getD k true=false:=fun k p=>by
    by_cases D:j=k
    ·subst D;exact l
    ·rwa [getD_set_ne true D] at p
   have t:∀k s,ops[k]? =some s->k≠i->(d.setIfInBounds j true).getD k true=false->
     (∀e∈s.after,Region.binds md e=true->e.on≠i)->y.apart ops s=true:=fun k s hk M p A=>q k s hk M (u k p) A
   have R:((∀w,Sy w)/\bef i=false)∨((∀w,S w->Sy w)/\∀k s,ops[k]? =some s->(d.setIfInBounds j true).getD k true=false->(∀e∈s.after,Region.binds md e=true->e.on≠i)->bef k=true):=
    hk.imp id (fun h=>⟨h.1,fun k s hk p A=>h.2 k s hk (u k p) A⟩)
   refine wpOp_mono (fun X w' h3=>⟨h3.2.1,Y (d.setIfInBounds j true) X w' t R (ready_mono C (Ne.symm f)) h3.1 ?_ (fun G=>?_) ?_⟩) h2
   ·rcases hk with⟨hk,_⟩ | ⟨F,B⟩
    ·exact hk w'
    ·exact F w' (h3.2.1 (B j m r l n))
   ·rcases hk with⟨_,hk⟩ | ⟨F,B⟩
    ·rw[hk] at G;cases G
    ·exact h3.2.1 (B j m r l n)
   ·rw[Array.setIfInBounds_comm _ _ f];exact h3.2.2
def b8Z(md:Region.Mode)(ops:Array Oper)(bef:Nat->Bool)(a:Array Bool)(i:Nat):Bool:=
 (List.range ops.size).all fun j=>match ops[j]? with
  | none=>true
  | some b=>a.getD j true || b.after.any (fun e=>Region.binds md e && e.on == i) || bef j
theorem b4Q{a:Array Bool}{i:Nat}(h:b8Z md ops bef a i=true):∀j f,ops[j]? =some f->a.getD j true=false->(∀e∈f.after,Region.binds md e=true->e.on≠i)->bef j=true:=by
 intro j f l d k;have g:j<ops.size:=(Array.getElem?_eq_some_iff.1 l).1;have c:=Br.1 h j (List.mem_range.2 g);simp only[l,d,Bool.false_or,Bool.or_eq_true] at c;rcases c with c | c
 ·obtain⟨e,m,b⟩:=Array.any_eq_true'.1 c;rw[Ca,Cz] at b;exact absurd b.2 (k e m b.1)
 ·exact c
theorem a4a{i:Nat}(d:Nat){f:Oper}{v:Value}{e:Nat}{b:Array Bool}{l:List Value}{g:List Deferred}{w:World}(k:ops[i]? =some f)
  (s:Region.noSelect ops=true) (o:Region.free md ops b i=true) (r:(Region.ready md ops b).contains i=true) (q:b8Z md ops bef b i=true)
  (m:∀c a w,Q (.panic c) (a.put f.dst v) w->Q (.panic c) a w) (p:f.dst=some d) (j:S w)
  (n:YieldsIf P ops S f v { tmps:=l.toArray,defers:=g })
  (h:a1h P md ops Q bef S e (b.setIfInBounds i true) { tmps:=(l.set d v).toArray,defers:=g } w):a1h P md ops Q bef S (e+1) b { tmps:=l.toArray,defers:=g } w:=by
 refine a5r (Sy:=S) k (Region.noSelect_spec s) m e b _ w (Region.free_spec k o) (.inr ⟨fun _ h=>h,b4Q q⟩) (by simpa using r) n j (fun _=>j) ?_;rw[p];unfold Act.put;simp only[Aw];exact h
theorem b2g{i:Nat}(d:Nat){f:Oper}{v:Value}{e:Nat}{b:Array Bool}{l:List Value}{g:List Deferred}{w:World}(k:ops[i]? =some f)
  (r:Region.noSelect ops=true) (o:Region.free md ops b i=true) (q:(Region.ready md ops b).contains i=true) (j:bef i=false)
  (m:∀c a w,Q (.panic c) (a.put f.dst v) w->Q (.panic c) a w) (p:f.dst=some d)
  (n:YieldsIf P ops (fun _=>True) f v { tmps:=l.toArray,defers:=g })
  (h:a1h P md ops Q bef S e (b.setIfInBounds i true) { tmps:=(l.set d v).toArray,defers:=g } w):a1h P md ops Q bef S (e+1) b { tmps:=l.toArray,defers:=g } w:=by
 refine a5r (Sy:=fun _=>True) k (Region.noSelect_spec r) m e b _ w (Region.free_spec k o) (.inl ⟨fun _=>trivial,j⟩) (by simpa using q) n trivial (fun h=>by rw[j] at h;cases h) ?_;rw[p];unfold Act.put;simp only[Aw];exact h
theorem a0k{c:Nat}{b:Array Bool}{a:Act}{w:World}(i:Nat){o:Oper}(g:Region.ready md ops b=[i])(m:ops[i]? =some o)
  (h:∀d:Act->World->Prop,Shut (∀a w,(bef i=true->S w)->a1h P md ops Q bef S c (b.setIfInBounds i true) a w->d a w)->if Region.wanted o (yielded ops a.tmps)=true then Oper.wp P o a w d Q else d (a.put o.dst undef) w):
  a1h P md ops Q bef S (c+1) b a w:=by
 refine⟨fun e=>(by rw[g] at e;cases e),fun j f=>?_⟩;rw[g] at f;obtain rfl:=AQ.1 f;exact wpOp_step m (fun d hK=>h d (fun a w l k=>hK a w ⟨l,k⟩))
theorem b2h{b:Array Bool}{a:Act}{w:World}(d:Region.ready md ops b=[])(h:Q .normal a w)(c:Nat):a1h P md ops Q bef S c b a w:=by
 cases c with
 | zero=>exact ⟨d,h⟩
 | succ n=>
  refine⟨fun _=>h,fun i e=>?_⟩;rw[d] at e;cases e
theorem a0h{id:Nat}{a:Act}{w:World}(bef:Nat->Bool)(S:World->Prop)(b:P.follows .mixedOrders=true)(c:S w.drew)
  (h:S w.drew->a1h P .any ops Q bef S ops.size (Array.replicate ops.size false) a w.drew):(Code.region id ops true).wp P Q a w:=
 wp_region_any b (a62 _ _ _ _ (h c))
end
section
variable {P : Program} {ops : Array Oper} {Q : Exit -> Act -> World -> Prop} {md : Region.Mode} {S : World -> Prop} {bef : Nat -> Bool}
theorem qtk (i d : Nat) {oi : Oper} {v : Value} {fuel : Nat} {listed : Array Bool} {l l' : List Value} {ds : List Deferred} {w : World}
    (h : a1h P md ops Q bef S fuel (listed.setIfInBounds i true) { tmps := l'.toArray, defers := ds } w) (hi : ops[i]? = some oi := by rfl)
    (hs : Region.noSelect ops = true := by kernel_rfl) (hf : Region.free md ops listed i = true := by kernel_rfl) (hr : (Region.ready md ops listed).contains i = true := by kernel_rfl) (hb : b8Z md ops bef listed i = true := by kernel_rfl)
    (hQ : ∀ c a w, Q (.panic c) (a.put oi.dst v) w -> Q (.panic c) a w := by exact fun _ _ _ h => h) (hd : oi.dst = some d := by rfl) (hS : S w := by assumption)
    (hy : YieldsIf P ops S oi v { tmps := l.toArray, defers := ds } := by exact Or.inl ⟨by rfl, by intro w hSw; (try dsimp only at hSw); go_simp; (try with_reducible rfl)⟩) (hl : l.set d v = l' := by simp only [qz]; exact rfl) : a1h P md ops Q bef S (fuel + 1) listed { tmps := l.toArray, defers := ds } w :=
  a4a d hi hs hf hr hb hQ hd hS hy (by rw [hl]; exact h)
theorem qtu (i d : Nat) {oi : Oper} {fuel : Nat} {listed : Array Bool} {l l' : List Value} {ds : List Deferred} {w : World}
    (h : a1h P md ops Q bef S fuel (listed.setIfInBounds i true) { tmps := l'.toArray, defers := ds } w) (hi : ops[i]? = some oi := by rfl)
    (hs : Region.noSelect ops = true := by kernel_rfl) (hf : Region.free md ops listed i = true := by kernel_rfl) (hr : (Region.ready md ops listed).contains i = true := by kernel_rfl) (hb : b8Z md ops bef listed i = true := by kernel_rfl)
    (hQ : ∀ c a w, Q (.panic c) (a.put oi.dst undef) w -> Q (.panic c) a w := by exact fun _ _ _ h => h) (hd : oi.dst = some d := by rfl) (hS : S w := by assumption) (hy : YieldsIf P ops S oi undef { tmps := l.toArray, defers := ds } := by exact Or.inr ⟨by rfl, rfl⟩) (hl : l.set d undef = l' := by simp only [qz]; exact rfl) : a1h P md ops Q bef S (fuel + 1) listed { tmps := l.toArray, defers := ds } w :=
  a4a d hi hs hf hr hb hQ hd hS hy (by rw [hl]; exact h)
theorem qfr (i d : Nat) {oi : Oper} {v : Value} {fuel : Nat} {listed : Array Bool} {l l' : List Value} {ds : List Deferred} {w : World}
    (h : a1h P md ops Q bef S fuel (listed.setIfInBounds i true) { tmps := l'.toArray, defers := ds } w) (hi : ops[i]? = some oi := by rfl)
    (hs : Region.noSelect ops = true := by kernel_rfl) (hf : Region.free md ops listed i = true := by kernel_rfl) (hr : (Region.ready md ops listed).contains i = true := by kernel_rfl) (hb : bef i = false := by kernel_rfl)
    (hQ : ∀ c a w, Q (.panic c) (a.put oi.dst v) w -> Q (.panic c) a w := by exact fun _ _ _ h => h) (hd : oi.dst = some d := by rfl)
    (hy : YieldsIf P ops (fun _ => True) oi v { tmps := l.toArray, defers := ds } := by exact Or.inl ⟨by rfl, by intro w hSw; (try dsimp only at hSw); go_simp; (try with_reducible rfl)⟩) (hl : l.set d v = l' := by simp only [qz]; exact rfl) : a1h P md ops Q bef S (fuel + 1) listed { tmps := l.toArray, defers := ds } w :=
  b2g d hi hs hf hr hb hQ hd hy (by rw [hl]; exact h)
theorem qone {fuel : Nat} {listed : Array Bool} {a : Act} {w : World} (i : Nat) {o : Oper}
    (h : ∀ K' : Act -> World -> Prop, Shut (∀ a w, (bef i = true -> S w) -> a1h P md ops Q bef S fuel (listed.setIfInBounds i true) a w -> K' a w) -> if Region.wanted o (yielded ops a.tmps) = true then Oper.wp P o a w K' Q else K' (a.put o.dst undef) w)
    (hr : Region.ready md ops listed = [i] := by kernel_rfl) (ho : ops[i]? = some o := by rfl) : a1h P md ops Q bef S (fuel + 1) listed a w := a0k i hr ho h
theorem qdon {listed : Array Bool} {a : Act} {w : World} {fuel : Nat} (h : Q .normal a w) (hr : Region.ready md ops listed = [] := by kernel_rfl) : a1h P md ops Q bef S fuel listed a w := b2h hr h fuel
end
theorem a45(n a b:Int)(w:World)(d:a<=b)(f: -1000000000000000<=a)(h3:b<=1000000000000000):
  Calls Tryz.prog 6 #[.int .i64 n,.int .i64 a,.int .i64 b] w fun e w'=>e= .returned (.int .i64 (a2e n a b))/\w=w':=by
 have c:=a9N n (b - a+1) (by omega);obtain⟨hb1,hb2⟩:=c;go_enter Tryz.func6,Tryz.ntmps6;go_wp2
 ·have h:n.tmod (b - a+1)<0:=by assumption
  have:=b5k n (b - a+1) (by omega) h;go_ret;exact⟨a0F (by unfold a2e;omega),rfl⟩
 ·have h:0<=n.tmod (b - a+1):=by assumption
  have:=b0P n (b - a+1) (by omega) h;go_ret;exact⟨a0F (by unfold a2e;omega),rfl⟩
theorem b4B(n:Nat)(a:Option Addr)(b cap:Nat)(w:World)(d:b<=cap)(c:n<=1000000000000):
  Calls Tryz.prog 29 #[.slice a b cap,.int .i64 (n:Int)] w fun e w'=>e= .returned (.slice a (min b n) cap)/\w=w':=by
 by_cases h:n<b
 ·go_enter Tryz.func29,Tryz.ntmps29;go_wp2;go_ret;exact⟨by rw[Nat.min_eq_right (by omega)];rfl,rfl⟩
 ·go_enter Tryz.func29,Tryz.ntmps29;go_wp2;go_ret;exact⟨by rw[Nat.min_eq_left (by omega)];rfl,rfl⟩
theorem b5Z(c:Nat)(b off cap:Nat)(xs:List UInt8)(w:World)(L:c<4294967296)(N:xs.length<=cap)(J:cap<=maxLen)
  (a:∀i (h:i<xs.length),w.cell? ⟨b,off+i,none⟩=some (.int .u8 (xs[i].toNat:Int))):
  Calls Tryz.prog 200 #[.int .u32 (c:Int),.slice (some ⟨b,off,none⟩) xs.length cap] w fun e w'=>e= .returned (.int .u32 (crcMore c xs:Nat))/\w=w':=by
 unfold maxLen at J;obtain⟨d,y⟩:=qnm (4294967295 - c);have F:=a8c c L;rw[<-y] at F;have z:d<4294967296:=by omega
 have H:=qh y;clear y;go_enter Tryz.func200,Tryz.ntmps200;go_wp2;go_loop [0,12] (fun t i=>∃k:Nat,k<=xs.length/\i= .int .i64 k/\t= .int .u32 (a3B d (xs.take k):Nat)) (fun _ i=>xs.length - (intOf i).toNat);case atStart=>exact ⟨0,AH _,rfl,by simp[a3B]⟩
 case round=>
  obtain⟨k,hk,rfl,rfl⟩:=hrel;have q:=b2t (xs.take k) z;by_cases o:k<xs.length
  ·have I:=a k o;have O:=(xs[k]).toNat_lt;have E:=qh (b25 xs k o);obtain⟨f,m⟩:=qnm (a3B d (xs.take k));rw[<-m] at q⊢;have v:=u32_xor_nat f (xs[k].toNat) q (by omega);obtain⟨g,r⟩:=qnm (f ^^^ xs[k].toNat);have x:g<4294967296:=by rw[r];exact Nat.xor_lt_two_pow (n:=32) q (by omega)
   rw[<-r] at v;have C:=qh m;have K:=qh r;clear m r;go_wp2;go_loop [0,20] (fun t i=>∃j:Nat,j<=8/\i= .int .i64 j/\t= .int .u32 (crcBits j g:Nat)) (fun _ i=>8 - (intOf i).toNat);case atStart=>exact ⟨0,by omega,rfl,rfl⟩
   case round=>
    obtain⟨j,M,rfl,rfl⟩:=hrel;have p:=a7G (n:=j) x;obtain⟨e,u⟩:=qnm (crcBits j g);rw[<-u] at p⊢;have s:=qh u;clear u;by_cases G:j<8
    ·have P:=b6M e p;by_cases B:e % 2=1
     ·have A:=u32_xor_nat (e / 2) 3988292384 (by omega) (by omega);have l:bits .xor .u32 ((e:Int) / 2) 3988292384=((crcStep e:Nat):Int):=by
       rw[crcStep,Ah B];simpa using A
      clear A;go_wp2;go_round;case rel=>exact ⟨j+1,by omega,by go_num,by rw[s.out];rfl⟩
      case measure=>simp [intOf];omega
     ·have l:(e:Int) / 2=((crcStep e:Nat):Int):=by
       rw[crcStep,Ag B];simp
      have D:=qh l;clear l;go_wp2;go_round;case rel=>exact ⟨j+1,by omega,by go_num,by rw[D.out,s.out];rfl⟩
      case measure=>simp [intOf];omega
    ·go_wp2;go_round;case rel=>exact ⟨k+1,by omega,by go_num,by
      rw[s.out,E.out,a9w,<-C.out,a8r,<-K.out];have:j=8:=by omega
      rw[this]⟩
     case measure=>simp [intOf];omega
  ·have Q:=a8c _ q;go_wp2;go_ret;exact⟨a0F (by rw[crcMore,<-H.out,Am (by omega)]),rfl⟩
theorem b3X(c:Nat)(a:Option Addr)(cap:Nat)(w:World)(j:c<4294967296):
  Calls Tryz.prog 200 #[.int .u32 (c:Int),.slice a 0 cap] w fun e w'=>e= .returned (.int .u32 (crcMore c []:Nat))/\w=w':=by
 obtain⟨d,b⟩:=qnm (4294967295 - c);have h:=a8c c j;rw[<-b] at h;have f:d<4294967296:=by omega
 have k:=a8c d f;have g:=qh b;clear b;go_enter Tryz.func200,Tryz.ntmps200;go_wp2;go_loop [0,12] (fun t i=>i= .int .i64 0/\t= .int .u32 d) (fun _ _=>0);case atStart=>exact ⟨rfl,rfl⟩
 case round=>
  obtain⟨rfl,rfl⟩:=hrel;go_wp2;go_ret;exact⟨a0F (by rw[crcMore,<-g.out];rfl),rfl⟩
theorem b50(c:Nat)(a:Option Addr)(d cap:Nat)(xs:List UInt8)(w:World)(f:c<4294967296)(h:Bs w a d cap xs):
  Calls Tryz.prog 200 #[.int .u32 (c:Int),.slice a d cap] w fun e w'=>e= .returned (.int .u32 (crcMore c xs:Nat))/\w=w':=by
 obtain⟨g,k,h3,i⟩:=h;rcases i with rfl | ⟨b,off,rfl,l,j⟩
 ·obtain rfl:=Ax.1 g;exact b3X c a cap w f
 ·subst g;exact b5Z c b off cap xs w f k h3 j
theorem a4j(a:Option Addr)(b cap:Nat)(xs:List UInt8)(w:World)(h:Bs w a b cap xs):
  Calls Tryz.prog 118 #[.slice a b cap] w fun e w'=>e= .returned (.int .u32 (crcMore 0 xs:Nat))/\w=w':=by
 go_enter Tryz.func118,Tryz.ntmps118;go_wp2_with fail;refine(b50 0 a b cap xs w (by omega) h).mono ?_;rintro e w' ⟨rfl,rfl⟩;go_wp2_with fail;go_ret;exact⟨rfl,rfl⟩
def seg(n:Int):Int:=(n - 1 - 2 * (n / 4)) / 8
theorem b6S(n:Int)(a:64<=n)(b:n<=4096):3<=seg n/\seg n<=4096:=by unfold seg;omega
def ofV(n:Int):Value:=if n<64∨4096<n then .tuple #[.agg #[.int .i64 0,.int .i64 0,.int .i64 0],.int .i64 1]
 else .tuple #[.agg #[.int .i64 n,.int .i64 (n / 4),.int .i64 (seg n)],.int .i64 0]
theorem b04(n:Int)(w:World):
  Calls Tryz.prog 16 #[.int .i64 n] w fun e w'=>e= .returned (ofV n)/\Below w.heap.size w w':=by
 by_cases a:n<64
 ·go_enter Tryz.func16,Tryz.ntmps16;go_wp2;exact Aj (v:=.tuple #[.agg #[.int .i64 0,.int .i64 0,.int .i64 0],.int .i64 1]) (by simp[results,Tryz.results16,go_sem]) rfl ⟨by simp[ofV,a],(Ab _ _).alloc (Aa _) _⟩
 by_cases b:4096<n
 ·go_enter Tryz.func16,Tryz.ntmps16;go_wp2;exact Aj (v:=.tuple #[.agg #[.int .i64 0,.int .i64 0,.int .i64 0],.int .i64 1]) (by simp[results,Tryz.results16,go_sem]) rfl ⟨by simp[ofV,b],(Ab _ _).alloc (Aa _) _⟩
 ·go_enter Tryz.func16,Tryz.ntmps16;go_wp2;exact Aj (v:=.tuple #[.agg #[.int .i64 n,.int .i64 (n / 4),.int .i64 (seg n)],.int .i64 0]) (by simp[results,Tryz.results16,go_sem,seg]) rfl ⟨by simp[ofV,a,b],(Ab _ _).alloc (Aa _) _⟩
theorem b6W(n:Int)(w:World)(h:n<64∨4096<n):
  Calls Tryz.prog 16 #[.int .i64 n] w fun e w'=>e= .returned (.tuple #[.agg #[.int .i64 0,.int .i64 0,.int .i64 0],.int .i64 1])/\Below w.heap.size w w':=
 (b04 n w).mono fun _ _ ⟨a,b⟩=>⟨by rw[a,ofV,Ah h],b⟩
theorem b3L(n:Int)(w:World)(c:64<=n)(b:n<=4096):
  Calls Tryz.prog 16 #[.int .i64 n] w fun e w'=>e= .returned (.tuple #[.agg #[.int .i64 n,.int .i64 (n / 4),.int .i64 (seg n)],.int .i64 0])/\Below w.heap.size w w':=
 (b04 n w).mono fun _ _ ⟨h3,a⟩=>⟨by rw[h3,ofV,Ag (by omega)],a⟩
end
end Go.Proofs.YtbemfdcjieakdaaGreatDoor
