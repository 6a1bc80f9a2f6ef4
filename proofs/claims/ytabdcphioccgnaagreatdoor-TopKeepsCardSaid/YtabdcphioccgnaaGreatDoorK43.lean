/- Vault; VLaw. -/
import Derived.Test.YtabdcphioccgnaaGreatDoorK27
import Derived.Test.YtabdcphioccgnaaGreatDoorK42
set_option maxRecDepth 100000
set_option maxHeartbeats 8000000
namespace Go.Proofs.YtabdcphioccgnaaGreatDoor
section
open Go.RowKit Go.ChangeMaps Go.MapKept
structure VltM where
 σ : StM
 M : LogM
 gen : Nat
 seq : Nat
 sgs : Int
 rcs : Int
structure VIn (w : World) (B d sb mb n pn g : Nat) (S id : List UInt8) (v st l : Nat) (lh wv iv hv : Value) (V : VltM) : Prop where
 cel : w.heap[v]? = some (.cells (vaA d st l n pn g iv V.gen V.seq V.sgs V.rcs hv) TVault (0,0))
 st : StAt w B B w.heap.size st V.σ
 log : LogIn w B l d n pn g lh wv V.M
 idv : Own w B iv id
 dk : Dk w d sb mb n S nM
 vB : B <= v
 lB : B <= l
 dB : d < B
 sB : sb < B
 mB : mb < B
theorem cells_ne {w : World} {k : Nat} {C C' : Array Value} {ty ty' : TypeId} {fr fr' : Nat × Nat} (h : w.heap[k]? = some (.cells C ty fr)) (h' : w.heap[k]? = some (.cells C' ty' fr')) : ty = ty':=by
 rw [h] at h'; injection h' with h'; injection h' with _ h'
theorem cells_nm {w : World} {k : Nat} {C : Array Value} {ty : TypeId} {fr : Nat × Nat} (h : w.heap[k]? = some (.cells C ty fr)) : ∀ es cl,w.heap[k]? ≠ some (.map es cl):=fun es cl e => by
 rw [h] at e; injection e with e; cases e
theorem alien_ty {w : World} {k : Nat} {C : Array Value} {ty : TypeId} {fr : Nat × Nat} (h : w.heap[k]? = some (.cells C ty fr)) (ht : ty ≠ TB /\ ty ≠ TItem /\ ty ≠ TTree /\ ty ≠ TState /\ ty ≠ TSnaps /\ ty ≠ TOne /\ ty ≠ TOpen) : AlienS w k :=
 ⟨fun _ _ _ hC => cells_ne h hC ▸ ht,cells_nm h⟩
theorem Dk.chgs {w w' : World} {d sb mb n : Nat} {S : List UInt8} {T : Nat -> Prop} (h : Dk w d sb mb n S nM) (hc : Chg T w w') (h1 : ¬ T d) (h2 : ¬ T sb) (h3 : ¬ T mb) : Dk w' d sb mb n S nM:=by
 have hlt:=h.lt
 obtain ⟨hne,hS,hn,⟨cap,wr,h4,h5⟩,L,hL,hL0,hL1⟩:=h
 refine ⟨hne,hS,hn,⟨cap,wr,(hc.block d hlt.1 h1).trans h4,hc.row h5 h2⟩,L,hL.same numS (hc.block mb hlt.2.2 h3),hL0,fun i v hi => ?_⟩
 obtain ⟨_,_,_,_,_,_,hM,_⟩:=hL1 i v hi
 cases hM
theorem LogIn.chgs {w w' : World} {B l d : Nat} {s p g : Int} {hv wv : Value} {M : LogM} {T : Nat -> Prop} (h : LogIn w B l d s p g hv wv M) (hc : Chg T w w') (hl : ¬ T l) (hb : ∀ k C fr,T k -> w.heap[k]? ≠ some (.cells C TB fr)) (hr : ∀ k C fr,T k -> w.heap[k]? ≠ some (.cells C TRec fr)) : LogIn w' B l d s p g hv wv M where
 cel:=(hc.block l h.lt hl).trans h.cel
 hd:=hc.own h.hd (fun k hk e => by obtain ⟨C,fr,hC⟩:=h.hd.tyb k hk; exact hb k C fr e hC)
 wt:=by
  refine ⟨?_,fun r hr' => ⟨(h.wt.2 r hr').1,(h.wt.2 r hr').2.1,hc.own (h.wt.2 r hr').2.2 (fun k hk e => by obtain ⟨C,fr,hC⟩:=(h.wt.2 r hr').2.2.tyb k hk; exact hb k C fr e hC)⟩⟩
  have ho:=h.wt.1
  refine ⟨ho.1,?_⟩
  rcases ho.2 with h4 | ⟨g,cap,cur,h5,h6,h7,h8⟩
  ·exact .inl h4
  ·exact .inr ⟨g,cap,cur,h5,h6,(hc.block g (ltH h7) (fun e => hr g _ _ e h7)).trans h7,h8⟩
theorem StAt.chgs {w w' : World} {L s : Nat} {σ : StM} (h : StAt w L L w.heap.size s σ) (hb : Below w.heap.size w w') : StAt w' L L w'.heap.size s σ :=
 h.alien (Chg.of_below hb (fun _ => False)) (fun _ _ e => e.elim)
theorem log_turns {w : World} {B l d : Nat} {s p g : Int} {hv wv : Value} {M : LogM} (h : LogIn w B l d s p g hv wv M) (hl : B <= l) : ∀ k,(k = l ∨ wv.ownBlock = some k) -> B <= k /\ k < w.heap.size /\ ∃ C ty fr,w.heap[k]? = some (.cells C ty fr) /\ (ty = TLog ∨ ty = TRec):=by
 rintro k (rfl | hk)
 ·exact ⟨hl,h.lt,_,_,_,h.cel,.inl rfl⟩
 ·obtain ⟨C,fr,hC⟩:=h.wt.ty k hk
  exact ⟨(h.wt.lt k hk).1,(h.wt.lt k hk).2,_,_,_,hC,.inr rfl⟩
theorem turns_alien {w : World} {k : Nat} (h : ∃ C ty fr,w.heap[k]? = some (.cells C ty fr) /\ (ty = TLog ∨ ty = TRec)) : AlienS w k:=by
 obtain ⟨C,ty,fr,h1,h2⟩:=h
 rcases h2 with rfl | rfl <;> exact alien_ty h1 ⟨by decide,by decide,by decide,by decide,by decide,by decide,by decide⟩
theorem turns_ne {w : World} {k : Nat} {ty : TypeId} {C : Array Value} {fr : Nat × Nat} (h : ∃ C ty fr,w.heap[k]? = some (.cells C ty fr) /\ (ty = TLog ∨ ty = TRec)) (h1 : TLog ≠ ty) (h2 : TRec ≠ ty) : w.heap[k]? ≠ some (.cells C ty fr):=fun e => by
 obtain ⟨C',ty',fr',h3,h4⟩:=h
 have:=cells_ne h3 e
 rcases h4 with rfl | rfl
 ·exact h1 this
 ·exact h2 this
theorem fr_chg {w w' : World} {B0 : Nat} {T : Nat -> Prop} (hc : Chg T w w') (hB : B0 <= w.heap.size) (h : ∀ k,k < w.heap.size -> T k -> B0 <= k /\ ∀ C fr,w.heap[k]? ≠ some (.cells C TReply fr)) : Fr B0 w w' :=
 ⟨hc.below hB (fun k hk e => (h k hk e).1),fun k C fr hk => (hc.block k (ltH hk) (fun e => (h k (ltH hk) e).2 C fr hk)).trans hk⟩
theorem vault_cells {w : World} {v d s l : Nat} {n pn g : Int} {iv : Value} {gen seq : Nat} {sgs rcs : Int} {hv : Value} (h : w.heap[v]? = some (.cells (vaA d s l n pn g iv gen seq sgs rcs hv) TVault (0,0))) :
  w.cell? ⟨v,0,none⟩ = some (.pointer (some ⟨d,0,none⟩)) /\ w.cell? ⟨v,1,none⟩ = some (.pointer (some ⟨s,0,none⟩)) /\ w.cell? ⟨v,2,none⟩ = some (.pointer (some ⟨l,0,none⟩)) /\ w.cell? ⟨v,3,none⟩ = some (.int .i64 n) /\ w.cell? ⟨v,4,none⟩ = some (.int .i64 pn) /\ w.cell? ⟨v,5,none⟩ = some (.int .i64 g) /\ w.cell? ⟨v,6,none⟩ = some iv /\ w.cell? ⟨v,7,none⟩ = some (.int .u64 (gen : Int)) /\ w.cell? ⟨v,8,none⟩ = some (.int .u64 (seq : Int)) /\ w.cell? ⟨v,9,none⟩ = some (.int .i64 sgs) /\ w.cell? ⟨v,10,none⟩ = some (.int .i64 rcs) /\ w.cell? ⟨v,11,none⟩ = some hv :=
 ⟨cells_at h 0,cells_at h 1,cells_at h 2,cells_at h 3,cells_at h 4,cells_at h 5,cells_at h 6,cells_at h 7,cells_at h 8,cells_at h 9,cells_at h 10,cells_at h 11⟩
variable {w w' : World} {B B0 d sb mb n pn g v st l : Nat} {S S' id : List UInt8} {lh wv iv hv lh' wv' iv' hv' : Value} {V : VltM} {M' : LogM}
theorem VIn.lt (h : VIn w B d sb mb n pn g S id v st l lh wv iv hv V) : v < w.heap.size:=ltH h.cel
theorem VIn.size (h : VIn w B d sb mb n pn g S id v st l lh wv iv hv V) : B <= w.heap.size:=Nat.le_trans h.vB (Nat.le_of_lt h.lt)
theorem VIn.below (h : VIn w B d sb mb n pn g S id v st l lh wv iv hv V) (hb : Below w.heap.size w w') : VIn w' B d sb mb n pn g S id v st l lh wv iv hv V where
 cel:=(hb.block v h.lt).trans h.cel
 st:=h.st.chgs hb
 log:=h.log.below hb
 idv:=h.idv.below hb
 dk:=h.dk.below hb
 vB:=h.vB
 lB:=h.lB
 dB:=h.dB
 sB:=h.sB
 mB:=h.mB
theorem VIn.logged (h : VIn w B d sb mb n pn g S id v st l lh wv iv hv V) (hc : Chg (fun k => k = l ∨ wv.ownBlock = some k) w w') (hL : LogIn w' B l d n pn g lh wv' M') : VIn w' B d sb mb n pn g S id v st l lh wv' iv hv ⟨V.σ,M',V.gen,V.seq,V.sgs,V.rcs⟩ where
 cel:=(hc.block v h.lt (fun e => turns_ne (log_turns h.log h.lB v e).2.2 (by decide) (by decide) h.cel)).trans h.cel
 st:=h.st.alien hc (fun k _ e => .inr (turns_alien (log_turns h.log h.lB k e).2.2))
 log:=hL
 idv:=hc.own h.idv (fun k hk e => by
  obtain ⟨C,fr,hC⟩:=h.idv.tyb k hk
  exact turns_ne (log_turns h.log h.lB k e).2.2 (by decide) (by decide) hC)
 dk:=h.dk.chgs hc (fun e => by have:=(log_turns h.log h.lB d e).1; have:=h.dB; omega) (fun e => by have:=(log_turns h.log h.lB sb e).1; have:=h.sB; omega) (fun e => by have:=(log_turns h.log h.lB mb e).1; have:=h.mB; omega)
 vB:=h.vB
 lB:=h.lB
 dB:=h.dB
 sB:=h.sB
 mB:=h.mB
theorem VIn.logged_st (h : VIn w B d sb mb n pn g S id v st l lh wv iv hv V) (hc : Chg (fun k => k = l ∨ wv.ownBlock = some k) w w') {s' : Nat} {σ' : StM} (hs : StAt w B B w.heap.size s' σ') : StAt w' B B w'.heap.size s' σ' :=
 hs.alien hc (fun k _ e => .inr (turns_alien (log_turns h.log h.lB k e).2.2))
theorem VIn.logged_fr (h : VIn w B d sb mb n pn g S id v st l lh wv iv hv V) (hc : Chg (fun k => k = l ∨ wv.ownBlock = some k) w w') (hB : B0 <= B) : Fr B0 w w' :=
 fr_chg hc (Nat.le_trans hB h.size) (fun k _ e => ⟨Nat.le_trans hB (log_turns h.log h.lB k e).1,fun C fr => turns_ne (log_turns h.log h.lB k e).2.2 (by decide) (by decide)⟩)
theorem VIn.turned (h : VIn w B d sb mb n pn g S id v st l lh wv iv hv V) (hc : Chg (fun k => k = v) w w') {s' : Nat} {V' : VltM} (hM : V'.M = V.M) (hcel : w'.heap[v]? = some (.cells (vaA d s' l n pn g iv' V'.gen V'.seq V'.sgs V'.rcs hv') TVault (0,0))) (hs : StAt w B B w.heap.size s' V'.σ) (hI : Own w B iv' id) : VIn w' B d sb mb n pn g S id v s' l lh wv iv' hv' V':=by
 have hal : ∀ k,k < w.heap.size -> k = v -> k < B ∨ AlienS w k:=fun k _ e => .inr (by rw [e]; exact alien_ty h.cel ⟨by decide,by decide,by decide,by decide,by decide,by decide,by decide⟩)
 have hvt : ∀ k C fr ty,k = v -> TVault ≠ ty -> w.heap[k]? ≠ some (.cells C ty fr):=fun k C fr ty e ht hC => by rw [e] at hC; exact ht (cells_ne h.cel hC)
 exact ⟨hcel,hs.alien hc hal,by rw [hM]; exact h.log.chgs hc (fun e => hvt l _ _ _ e (by decide) h.log.cel) (fun k C fr e => hvt k C fr _ e (by decide)) (fun k C fr e => hvt k C fr _ e (by decide)),hc.own hI (fun k hk e => by
  obtain ⟨C,fr,hC⟩:=hI.tyb k hk
  exact hvt k C fr _ e (by decide) hC),h.dk.chgs hc (fun e => by have:=h.dB; have:=h.vB; omega) (fun e => by have:=h.sB; have:=h.vB; omega) (fun e => by have:=h.mB; have:=h.vB; omega),h.vB,h.lB,h.dB,h.sB,h.mB⟩
theorem VIn.turned_fr (h : VIn w B d sb mb n pn g S id v st l lh wv iv hv V) (hc : Chg (fun k => k = v) w w') (hB : B0 <= B) : Fr B0 w w' :=
 fr_chg hc (Nat.le_trans hB h.size) (fun k _ e => ⟨by have:=h.vB; omega,fun C fr hC => by rw [e] at hC; exact absurd (cells_ne h.cel hC) (by decide)⟩)
theorem setS_cel {s' : Nat} (h : w.heap[v]? = some (.cells (vaA d st l n pn g iv V.gen V.seq V.sgs V.rcs hv) TVault (0,0))) : (w.setCell ⟨v,1,none⟩ (.pointer (some ⟨s',0,none⟩))).heap[v]? = some (.cells (vaA d s' l n pn g iv V.gen V.seq V.sgs V.rcs hv) TVault (0,0)):=by
 have e:=cells_set (k:=1) (y:=.pointer (some ⟨s',0,none⟩)) h
 unfold vaA at e ⊢
 simp only [List.setIfInBounds_toArray,List.set_cons_zero,List.set_cons_succ] at e
 exact e
def putF (w : World) (v : Nat) (n pn g : Int) (iv : Value) (gen seq : Nat) (sgs rcs : Int) (hv : Value) : World :=
 ((((((((w.setCell ⟨v,3,none⟩ (.int .i64 n)).setCell ⟨v,4,none⟩ (.int .i64 pn)).setCell ⟨v,5,none⟩ (.int .i64 g)).setCell ⟨v,6,none⟩ iv).setCell ⟨v,7,none⟩ (.int .u64 (gen : Int))).setCell ⟨v,8,none⟩ (.int .u64 (seq : Int))).setCell ⟨v,9,none⟩ (.int .i64 sgs)).setCell ⟨v,10,none⟩ (.int .i64 rcs)).setCell ⟨v,11,none⟩ hv
theorem putF_chg (w : World) (v : Nat) (n pn g : Int) (iv : Value) (gen seq : Nat) (sgs rcs : Int) (hv : Value) : Chg (fun k => k = v) w (putF w v n pn g iv gen seq sgs rcs hv) :=
 (((((((((Chg.refl (fun k => k = v) w).setCell (p:=⟨v,3,none⟩) (fun _ => rfl) _).setCell (p:=⟨v,4,none⟩) (fun _ => rfl) _).setCell (p:=⟨v,5,none⟩) (fun _ => rfl) _).setCell (p:=⟨v,6,none⟩) (fun _ => rfl) _).setCell (p:=⟨v,7,none⟩) (fun _ => rfl) _).setCell (p:=⟨v,8,none⟩) (fun _ => rfl) _).setCell (p:=⟨v,9,none⟩) (fun _ => rfl) _).setCell (p:=⟨v,10,none⟩) (fun _ => rfl) _).setCell (p:=⟨v,11,none⟩) (fun _ => rfl) _
theorem putF_cel {n' pn' g' : Int} {gen' seq' : Nat} {sgs' rcs' : Int} (h : w.heap[v]? = some (.cells (vaA d st l n pn g iv V.gen V.seq V.sgs V.rcs hv) TVault (0,0))) : (putF w v n' pn' g' iv' gen' seq' sgs' rcs' hv').heap[v]? = some (.cells (vaA d st l n' pn' g' iv' gen' seq' sgs' rcs' hv') TVault (0,0)):=by
 have e:=cells_set (k:=11) (y:=hv') (cells_set (k:=10) (y:=.int .i64 rcs') (cells_set (k:=9) (y:=.int .i64 sgs') (cells_set (k:=8) (y:=.int .u64 (seq' : Int)) (cells_set (k:=7) (y:=.int .u64 (gen' : Int)) (cells_set (k:=6) (y:=iv') (cells_set (k:=5) (y:=.int .i64 g') (cells_set (k:=4) (y:=.int .i64 pn') (cells_set (k:=3) (y:=.int .i64 n') h))))))))
 unfold vaA at e ⊢
 simp only [List.setIfInBounds_toArray,List.set_cons_zero,List.set_cons_succ] at e
 exact e
theorem VIn.shut (h : VIn w B d sb mb n pn g S id v st l lh wv iv hv V) (hc : Chg (fun k => k = l ∨ k = d ∨ k = sb ∨ k = mb) w w') (hL : LogIn w' B l d n pn g lh' wv' M') (hD : Dk w' d sb mb n S' nM) : VIn w' B d sb mb n pn g S' id v st l lh' wv' iv hv ⟨V.σ,M',V.gen,V.seq,V.sgs,V.rcs⟩ where
 cel:=(hc.block v h.lt (by
  have:=h.vB; have:=h.dB; have:=h.sB; have:=h.mB
  rintro (e | e | e | e)
  ·have h2:=h.log.cel; rw [<- e] at h2; exact absurd (cells_ne h.cel h2) (by decide)
  all_goals omega)).trans h.cel
 st:=h.st.alien hc (fun k _ e => by
  have:=h.dB; have:=h.sB; have:=h.mB
  rcases e with e | e | e | e
  ·exact .inr (by rw [e]; exact log_alien h.log)
  all_goals exact .inl (by omega))
 log:=hL
 idv:=hc.own h.idv (fun k hk e => by
  have:=h.dB; have:=h.sB; have:=h.mB; have:=h.idv.ge k hk
  obtain ⟨C,fr,hC⟩:=h.idv.tyb k hk
  rcases e with e | e | e | e
  ·rw [e] at hC; exact absurd (cells_ne h.log.cel hC) (by decide)
  all_goals omega)
 dk:=hD
 vB:=h.vB
 lB:=h.lB
 dB:=h.dB
 sB:=h.sB
 mB:=h.mB
theorem dk_far {k : Nat} (hD : Dk w d sb mb n S nM) (e : k = d ∨ k = sb ∨ k = mb) : ∀ C fr,w.heap[k]? ≠ some (.cells C TReply fr):=by
 intro C fr hC
 obtain ⟨_,_,_,⟨cap,wr,h4,cur,h5,_⟩,L,h6,_⟩:=hD
 rcases e with rfl | rfl | rfl
 ·exact absurd (cells_ne h4 hC) (by decide)
 ·exact absurd (cells_ne h5 hC) (by decide)
 ·obtain ⟨es,cl,hm,_⟩:=h6
  rw [hC] at hm; injection hm with hm; cases hm
theorem VIn.shut_fr (h : VIn w B d sb mb n pn g S id v st l lh wv iv hv V) (hc : Chg (fun k => k = l ∨ k = d ∨ k = sb ∨ k = mb) w w') (hB : B0 <= B) (h1 : B0 <= d) (h2 : B0 <= sb) (h3 : B0 <= mb) : Fr B0 w w' :=
 fr_chg hc (Nat.le_trans hB h.size) (fun k _ e => by
  rcases e with e | e
  ·exact ⟨by have:=h.lB; omega,fun C fr hC => by rw [e] at hC; exact absurd (cells_ne h.log.cel hC) (by decide)⟩
  ·exact ⟨by omega,dk_far h.dk e⟩)
theorem VIn.disked (h : VIn w B d sb mb n pn g S id v st l lh wv iv hv V) (hc : Chg (fun k => k = d ∨ k = sb ∨ k = mb) w w') (hD : Dk w' d sb mb n S' nM) : VIn w' B d sb mb n pn g S' id v st l lh wv iv hv V :=
 h.shut (hc.mono (fun _ _ e => .inr e)) (h.log.far h.lB hc (fun k e => by have:=h.dB; have:=h.sB; have:=h.mB; omega)) hD
structure DoS (w W : World) (B0 B d sb mb n pn g : Nat) (S id : List UInt8) (v st l : Nat) (lh wv iv hv : Value) (V : VltM) (s2 : Nat) (σ' : StM) (N K : Nat) (o R : Array Value) : Prop where
 vin : VIn W B d sb mb n pn g S id v st l lh wv iv hv V
 st : StAt W B B W.heap.size s2 σ'
 zo : W.heap[N]? = some (.cells o TOp (0,0))
 zr : W.heap[N + 1]? = some (.cells rpZ TReply (0,0))
 zk : W.heap[K]? = some (.cells R TReply (0,0))
 ge : w.heap.size <= N
 fr : Fr B0 w W
 b0 : B0 <= B /\ B0 <= d /\ B0 <= sb /\ B0 <= mb
 le : B <= w.heap.size
variable {W W' : World} {s2 N K : Nat} {σ' : StM} {o R : Array Value}
theorem DoS.below (h : DoS w W B0 B d sb mb n pn g S id v st l lh wv iv hv V s2 σ' N K o R) (hb : Below W.heap.size W W') : DoS w W' B0 B d sb mb n pn g S id v st l lh wv iv hv V s2 σ' N K o R where
 vin:=h.vin.below hb
 st:=h.st.chgs hb
 zo:=(hb.block N (ltH h.zo)).trans h.zo
 zr:=(hb.block (N + 1) (ltH h.zr)).trans h.zr
 zk:=(hb.block K (ltH h.zk)).trans h.zk
 ge:=h.ge
 fr:=h.fr.trans (Fr.of hb (Nat.le_trans h.b0.1 h.vin.size))
 b0:=h.b0
 le:=h.le
theorem DoS.logged (h : DoS w W B0 B d sb mb n pn g S id v st l lh wv iv hv V s2 σ' N K o R) (hc : Chg (fun k => k = l ∨ wv.ownBlock = some k) W W') (hL : LogIn W' B l d n pn g lh wv' M') : DoS w W' B0 B d sb mb n pn g S id v st l lh wv' iv hv ⟨V.σ,M',V.gen,V.seq,V.sgs,V.rcs⟩ s2 σ' N K o R where
 vin:=h.vin.logged hc hL
 st:=h.vin.logged_st hc h.st
 zo:=(hc.block N (ltH h.zo) (fun e => turns_ne (log_turns h.vin.log h.vin.lB N e).2.2 (by decide) (by decide) h.zo)).trans h.zo
 zr:=(hc.block (N + 1) (ltH h.zr) (fun e => turns_ne (log_turns h.vin.log h.vin.lB (N + 1) e).2.2 (by decide) (by decide) h.zr)).trans h.zr
 zk:=(hc.block K (ltH h.zk) (fun e => turns_ne (log_turns h.vin.log h.vin.lB K e).2.2 (by decide) (by decide) h.zk)).trans h.zk
 ge:=h.ge
 fr:=h.fr.trans (h.vin.logged_fr hc h.b0.1)
 b0:=h.b0
 le:=h.le
theorem DoS.turned (h : DoS w W B0 B d sb mb n pn g S id v st l lh wv iv hv V s2 σ' N K o R) (hc : Chg (fun k => k = v) W W') {s' : Nat} {V' : VltM} (hM : V'.M = V.M) (hcel : W'.heap[v]? = some (.cells (vaA d s' l n pn g iv' V'.gen V'.seq V'.sgs V'.rcs hv') TVault (0,0))) (hs : StAt W B B W.heap.size s' V'.σ) (hI : Own W B iv' id) : DoS w W' B0 B d sb mb n pn g S id v s' l lh wv iv' hv' V' s' V'.σ N K o R :=
 have hk : ∀ (k : Nat) (C : Array Value) (ty : TypeId),W.heap[k]? = some (.cells C ty (0,0)) -> TVault ≠ ty -> W'.heap[k]? = some (.cells C ty (0,0)):=fun k C ty hC ht => (hc.block k (ltH hC) (fun e => by rw [e] at hC; exact ht (cells_ne h.vin.cel hC))).trans hC
 {vin:=h.vin.turned hc hM hcel hs hI
  st:=(h.vin.turned hc hM hcel hs hI).st
  zo:=hk N _ _ h.zo (by decide)
  zr:=hk _ _ _ h.zr (by decide)
  zk:=hk _ _ _ h.zk (by decide)
  ge:=h.ge
  fr:=h.fr.trans (h.vin.turned_fr hc h.b0.1)
  b0:=h.b0
  le:=h.le }
theorem DoS.setS (h : DoS w W B0 B d sb mb n pn g S id v st l lh wv iv hv V s2 σ' N K o R) : DoS w (W.setCell ⟨v,1,none⟩ (.pointer (some ⟨s2,0,none⟩))) B0 B d sb mb n pn g S id v s2 l lh wv iv hv ⟨σ',V.M,V.gen,V.seq,V.sgs,V.rcs⟩ s2 σ' N K o R :=
 h.turned ((Chg.refl (fun k => k = v) W).setCell (p:=⟨v,1,none⟩) (fun _ => rfl) _) rfl (setS_cel h.vin.cel) h.st h.vin.idv
theorem DoS.setF (h : DoS w W B0 B d sb mb n pn g S id v st l lh wv iv hv V st V.σ N K o R) (gen' seq' : Nat) (sgs' rcs' : Int) (hI : Own W B iv' id) (hv' : Value) : DoS w (putF W v n pn g iv' gen' seq' sgs' rcs' hv') B0 B d sb mb n pn g S id v st l lh wv iv' hv' ⟨V.σ,V.M,gen',seq',sgs',rcs'⟩ st V.σ N K o R :=
 h.turned (V':=⟨V.σ,V.M,gen',seq',sgs',rcs'⟩) (putF_chg W v n pn g iv' gen' seq' sgs' rcs' hv') rfl (putF_cel h.vin.cel) h.st hI
theorem DoS.shut (h : DoS w W B0 B d sb mb n pn g S id v st l lh wv iv hv V st V.σ N K o R) (hc : Chg (fun k => k = l ∨ k = d ∨ k = sb ∨ k = mb) W W') (hL : LogIn W' B l d n pn g lh' wv' M') (hD : Dk W' d sb mb n S' nM) : DoS w W' B0 B d sb mb n pn g S' id v st l lh' wv' iv hv ⟨V.σ,M',V.gen,V.seq,V.sgs,V.rcs⟩ st V.σ N K o R :=
 have hk : ∀ k C ty,W.heap[k]? = some (.cells C ty (0,0)) -> (ty = TReply ∨ ty = TOp /\ B <= k) -> W'.heap[k]? = some (.cells C ty (0,0)):=fun k C ty hC ht => by
  refine (hc.block k (ltH hC) (fun e => ?_)).trans hC
  rcases e with e | e
  ·have h2:=h.vin.log.cel
   rw [<- e] at h2
   have:=cells_ne hC h2
   rcases ht with rfl | ⟨rfl,_⟩ <;> exact absurd this (by decide)
  ·rcases ht with rfl | ⟨rfl,hk⟩
   ·exact dk_far h.vin.dk e _ _ hC
   ·have:=h.vin.dB; have:=h.vin.sB; have:=h.vin.mB
    omega
 {vin:=h.vin.shut hc hL hD
  st:=(h.vin.shut hc hL hD).st
  zo:=hk N _ _ h.zo (.inr ⟨rfl,Nat.le_trans h.le h.ge⟩)
  zr:=hk _ _ _ h.zr (.inl rfl)
  zk:=hk _ _ _ h.zk (.inl rfl)
  ge:=h.ge
  fr:=h.fr.trans (h.vin.shut_fr hc h.b0.1 h.b0.2.1 h.b0.2.2.1 h.b0.2.2.2)
  b0:=h.b0
  le:=h.le }
theorem DoS.disked (h : DoS w W B0 B d sb mb n pn g S id v st l lh wv iv hv V st V.σ N K o R) (hc : Chg (fun k => k = d ∨ k = sb ∨ k = mb) W W') (hD : Dk W' d sb mb n S' nM) : DoS w W' B0 B d sb mb n pn g S' id v st l lh wv iv hv V st V.σ N K o R :=
 h.shut (hc.mono (fun _ _ e => .inr e)) (h.vin.log.far h.vin.lB hc (fun k e => by have:=h.vin.dB; have:=h.vin.sB; have:=h.vin.mB; omega)) hD
theorem VIn.setReply {C : Array Value} (h : VIn w B d sb mb n pn g S id v st l lh wv iv hv V) (hz : w.heap[N]? = some (.cells C TReply (0,0))) (hN : B <= N) (R : Array Value) : VIn (w.setRow N R) B d sb mb n pn g S id v st l lh wv iv hv V:=by
 have hc : Chg (fun k => k = N) w (w.setRow N R):=⟨rfl,rfl,rfl,by simp [World.setRow],fun k _ hk => setRow_other w N k R hk⟩
 have hvt : ∀ k C fr ty,k = N -> TReply ≠ ty -> w.heap[k]? ≠ some (.cells C ty fr):=fun k C fr ty e ht hC => by rw [e] at hC; exact ht (cells_ne hz hC)
 exact ⟨(hc.block v h.lt (fun e => hvt v _ _ _ e (by decide) h.cel)).trans h.cel,h.st.alien hc (fun k _ e => .inr (by rw [e]; exact alien_ty hz ⟨by decide,by decide,by decide,by decide,by decide,by decide,by decide⟩)),
  h.log.chgs hc (fun e => hvt l _ _ _ e (by decide) h.log.cel) (fun k C fr e => hvt k C fr _ e (by decide)) (fun k C fr e => hvt k C fr _ e (by decide)),hc.own h.idv (fun k hk e => by
  obtain ⟨C,fr,hC⟩:=h.idv.tyb k hk
  exact hvt k C fr _ e (by decide) hC),h.dk.chgs hc (fun e => by have:=h.dB; omega) (fun e => by have:=h.sB; omega) (fun e => by have:=h.mB; omega),h.vB,h.lB,h.dB,h.sB,h.mB⟩
theorem DoS.fin (h : DoS w W B0 B d sb mb n pn g S id v st l lh wv iv hv V s2 σ' N K o R) : VIn (W.setRow (N + 1) R) B d sb mb n pn g S id v st l lh wv iv hv V /\ Fr B0 w (W.setRow (N + 1) R) :=
 ⟨h.vin.setReply h.zr (Nat.le_trans h.le (Nat.le_trans h.ge (Nat.le_succ _))) R,h.fr.setRow (Nat.le_trans h.b0.1 (Nat.le_trans h.le (Nat.le_trans h.ge (Nat.le_succ _)))) (Nat.le_trans h.ge (Nat.le_succ _)) R⟩
theorem own_far {ia : Option Addr} {ic m : Nat} {xs : List UInt8} (h : Own w B (.slice ia m ic) xs) (hd : d < B) (hs : sb < B) (hm : mb < B) : ∀ ad,ia = some ad -> ad.block ≠ d /\ ad.block ≠ sb /\ ad.block ≠ mb:=by
 intro ad e
 have:=h.ge ad.block (by subst e; rfl)
 omega
theorem open_of {L s : Nat} {σ : StM} (h : StAt w L L w.heap.size s σ) (hf : ∀ i,σ.fds i = none) : Calls Tryz.prog 22 #[.pointer (some ⟨s,0,none⟩)] w fun e w' => (∃ a c,e = .returned (.slice a 0 c)) /\ Below w.heap.size w w':=by
 obtain ⟨t,sn,fp,h⟩:=h
 refine (open_any h).mono ?_
 rintro e w' ⟨⟨a,c,m,rfl,_,h1⟩,hb⟩
 obtain rfl:=h1.2 (fun i _ => hf i)
 exact ⟨⟨a,c,rfl⟩,hb⟩
theorem save_of {L s c : Nat} {σ : StM} (h : StAt w L L w.heap.size s σ) (ok : TrOk c σ.T) (hc : c <= 60000) (hsh : Shut0 σ.T) (hsn : Sn0 σ.S) (hL : L <= w.heap.size) : Calls Tryz.prog 36 #[.pointer (some ⟨s,0,none⟩)] w fun e w' => ∃ v,e = .returned v /\ Own w' w.heap.size v (stBytes σ.T σ.S σ.now) /\ Below w.heap.size w w':=by
 obtain ⟨t,sn,fp,h⟩:=h
 exact stsave_any h (Nat.le_refl _) (Commits.shut h.tree ok hc hL hsh) ok hc hsn.no (by have:=hsn.hi; omega) hsn.len
end
section
open Go.RowKit
def waitB (ls : List Rc) : Nat:=(ls.map fun r => 15 + r.m).sum
theorem waitB_app (ls : List Rc) (r : Rc) : waitB (ls ++ [r]) = waitB ls + (15 + r.m):=by simp [waitB]
theorem waitB_cons (r : Rc) (ls : List Rc) : waitB (r :: ls) = 15 + r.m + waitB ls:=by simp [waitB]
theorem fitsN_of : ∀ (ls : List Rc) (left : Nat),(∀ r ∈ ls,RecOk r.k r.q r.m) -> waitB ls <= left -> fitsN left ls = ls.length
 | [],_,_,_ => fitsN_nil _
 | r :: rs,left,h,hs => by
  have e : waitB (r :: rs) = 15 + r.m + waitB rs:=waitB_cons r rs
  rw [fitsN_cons,if_pos ⟨h r (List.mem_cons_self ..),by omega⟩,fitsN_of rs _ (fun x hx => h x (List.mem_cons_of_mem _ hx)) (by omega)]
  rfl
theorem fitsN_ok : ∀ (ls : List Rc) (left : Nat),fitsN left ls = ls.length -> (∀ r ∈ ls,RecOk r.k r.q r.m) /\ waitB ls <= left
 | [],_,_ => ⟨fun r h => by simp at h,by simp [waitB]⟩
 | r :: rs,left,h => by
  have e : waitB (r :: rs) = 15 + r.m + waitB rs:=waitB_cons r rs
  rw [fitsN_cons] at h
  by_cases hc : RecOk r.k r.q r.m /\ 15 + r.m <= left
  ·rw [if_pos hc,List.length_cons] at h
   obtain ⟨h1,h2⟩:=fitsN_ok rs (left - (15 + r.m)) (by omega)
   exact ⟨fun x hx => by
    rcases List.mem_cons.1 hx with rfl | hx
    ·exact hc.1
    ·exact h1 x hx,by omega⟩
  ·rw [if_neg hc,List.length_cons] at h; omega
theorem fits_app {M : LogM} {g : Int} (h : LogOk g M) (r : Rc) (hr : RecOk r.k r.q r.m) (hs : waitB M.wait + 15 + r.m <= 942) : fitsN 942 (M.wait ++ [r]) = M.wait.length + 1:=by
 rw [fitsN_of]
 ·simp
 ·intro x hx
  rcases List.mem_append.1 hx with hx | hx
  ·exact (fitsN_ok _ _ h.fit).1 x hx
  ·rw [List.mem_singleton.1 hx]; exact hr
 ·rw [waitB_app]; omega
theorem LogOk.app {M : LogM} {g : Int} (h : LogOk g M) {r : Rc} {k : Int} {E : List UInt8} (hr : r.core = (k,M.next + M.wait.length,E)) (hm : r.ys.length = r.m) (hok : RecOk k (M.next + M.wait.length) E.length) (hs : waitB M.wait + 15 + E.length <= 942) (hn : M.next + M.wait.length + 1 <= 1099511627776) (hl : M.wait.length + 1 <= 1000) :
  LogOk g ⟨M.sealed,M.head,M.next,M.wait ++ [r]⟩:=by
 unfold Rc.core at hr
 injection hr with h1 h2
 injection h2 with h2 h3
 have hrm : r.m = E.length:=by rw [<- hm,h3]
 refine ⟨h.g1,h.g2,h.sl,h.hd,by simp; omega,?_,by simp; omega,fun j hj => ?_⟩
 ·rw [fits_app h r (by rw [h1,h2,hrm]; exact hok) (by omega)]
  simp
 ·simp only [List.length_append,List.length_singleton] at hj
  show (M.wait ++ [r])[j].q = M.next + j
  rcases Nat.lt_or_ge j M.wait.length with h4 | h4
  ·rw [List.getElem_append_left h4]; exact h.seq j h4
  ·have e : j = M.wait.length:=by omega
   subst e
   rw [List.getElem_append_right (Nat.le_refl _)]
   simp [h2]
theorem LogOk.shut {M : LogM} {g : Int} (h : LogOk g M) (hr : (M.sealed : Int) < g) : LogOk g (sealM M) :=
 ⟨h.g1,h.g2,by show ((M.sealed + 1 : Nat) : Int) <= g; omega,sha_length _,by show M.next + M.wait.length + 0 <= _; exact h.nx,fitsN_nil _,Nat.zero_le _,fun j hj => absurd hj (Nat.not_lt_zero _)⟩
end
end Go.Proofs.YtabdcphioccgnaaGreatDoor
