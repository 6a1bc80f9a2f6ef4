/- Vault; VDoA. -/
import Derived.Test.YtbemfdcjieakdaaGreatDoorK38
import Derived.Test.YtbemfdcjieakdaaGreatDoorK41
set_option maxRecDepth 100000
set_option maxHeartbeats 8000000
namespace Go.Proofs.YtbemfdcjieakdaaGreatDoor
section
open Go.RowKit Go.ChangeMaps Go.MapKept
structure VltM where
 σ:StM
 M:LogM
 gen:Nat
 seq:Nat
 sgs:Int
 rcs:Int
structure VIn (w:World) (B d sb mb n pn g:Nat) (S id:List UInt8) (v st l:Nat) (lh wv iv hv:Value) (V:VltM):Prop where
 cel:w.heap[v]? =some (.cells (vaA d st l n pn g iv V.gen V.seq V.sgs V.rcs hv) TVault (0,0))
 st:StAt w B B w.heap.size st V.σ
 log:LogIn w B l d n pn g lh wv V.M
 idv:Own w B iv id
 dk:Dk w d sb mb n S nM
 vB:B<=v
 lB:B<=l
 dB:d<B
 sB:sb<B
 mB:mb<B
theorem a1k{w:World}{k:Nat}{C C':Array Value}{c ty':TypeId}{d b:Nat×Nat}(h:w.heap[k]? =some (.cells C c d))(a:w.heap[k]? =some (.cells C' ty' b)):c=ty':=by
 rw[h] at a;injection a with a;injection a with _ a
theorem b6I{w:World}{k:Nat}{C:Array Value}{d:TypeId}{c:Nat×Nat}(h:w.heap[k]? =some (.cells C d c)):∀a b,w.heap[k]?≠some (.map a b):=fun a b e=>by
 rw[h] at e;injection e with e;cases e
theorem a4Y{w:World}{k:Nat}{C:Array Value}{a:TypeId}{b:Nat×Nat}(h:w.heap[k]? =some (.cells C a b))(d:a≠TB/\a≠a17/\a≠TTree/\a≠TState/\a≠a1A/\a≠a3d/\a≠a8A):AlienS w k:=
 ⟨fun _ _ _ c=>a1k h c ▸ d,b6I h⟩
theorem Dk.chgs{w w':World}{d sb mb n:Nat}{S:List UInt8}{T:Nat->Prop}(h:Dk w d sb mb n S nM)(e:Chg T w w')(p:¬T d)(q:¬T sb)(h3:¬T mb):Dk w' d sb mb n S nM:=by
 have a:=h.lt;obtain⟨b,j,m,⟨cap,wr,g,k⟩,L,o,f,c⟩:=h;refine⟨b,j,m,⟨cap,wr,(e.block d a.1 p).trans g,e.row k q⟩,L,o.same numS (e.block mb a.2.2 h3),f,fun i v r=>?_⟩;obtain⟨_,_,_,_,_,_,l,_⟩:=c i v r;cases l
theorem LogIn.chgs{w w':World}{B l d:Nat}{s p g:Int}{hv wv:Value}{M:LogM}{T:Nat->Prop}(h:LogIn w B l d s p g hv wv M)(hc:Chg T w w')(hl:¬T l)(hb:∀k C fr,T k->w.heap[k]?≠some (.cells C TB fr))(hr:∀k C fr,T k->w.heap[k]?≠some (.cells C a2U fr)):LogIn w' B l d s p g hv wv M where
 cel:=(hc.block l h.lt hl).trans h.cel
 hd:=hc.own h.hd (fun k hk e=>by obtain⟨C,fr,hC⟩:=h.hd.tyb k hk;exact hb k C fr e hC)
 wt:=by
  refine⟨?_,fun r hr'=>⟨(h.wt.2 r hr').1,(h.wt.2 r hr').2.1,hc.own (h.wt.2 r hr').2.2 (fun k hk e=>by obtain⟨C,fr,hC⟩:=(h.wt.2 r hr').2.2.tyb k hk;exact hb k C fr e hC)⟩⟩;have ho:=h.wt.1;refine⟨ho.1,?_⟩;rcases ho.2 with h4 | ⟨g,cap,cur,h5,h6,h7,h8⟩
  ·exact .inl h4
  ·exact .inr ⟨g,cap,cur,h5,h6,(hc.block g (ltH h7) (fun e=>hr g _ _ e h7)).trans h7,h8⟩
theorem StAt.chgs{w w':World}{L s:Nat}{σ:StM}(h:StAt w L L w.heap.size s σ)(a:Below w.heap.size w w'):StAt w' L L w'.heap.size s σ:=
 h.alien (Chg.of_below a (fun _=>False)) (fun _ _ e=>e.elim)
theorem a1z{w:World}{B l d:Nat}{s p g:Int}{hv wv:Value}{M:LogM}(h:LogIn w B l d s p g hv wv M)(c:B<=l):∀k,(k=l∨wv.ownBlock=some k)->B<=k/\k<w.heap.size/\∃C a b,w.heap[k]? =some (.cells C a b)/\(a=TLog∨a=a2U):=by
 rintro k (rfl | hk)
 ·exact⟨c,h.lt,_,_,_,h.cel,.inl rfl⟩
 ·obtain⟨C,b,e⟩:=h.wt.ty k hk;exact⟨(h.wt.lt k hk).1,(h.wt.lt k hk).2,_,_,_,e,.inr rfl⟩
theorem a5Z{w:World}{k:Nat}(h:∃C a b,w.heap[k]? =some (.cells C a b)/\(a=TLog∨a=a2U)):AlienS w k:=by
 obtain⟨C,a,b,c,d⟩:=h;rcases d with rfl | rfl <;>exact a4Y c ⟨by decide,by decide,by decide,by decide,by decide,by decide,by decide⟩
theorem a3Y{w:World}{k:Nat}{a:TypeId}{C:Array Value}{b:Nat×Nat}(h:∃C a b,w.heap[k]? =some (.cells C a b)/\(a=TLog∨a=a2U))(g:TLog≠a)(i:a2U≠a):w.heap[k]?≠some (.cells C a b):=fun e=>by
 obtain⟨C',f,c,h3,d⟩:=h;have:=a1k h3 e;rcases d with rfl | rfl
 ·exact g this
 ·exact i this
theorem b1i{w w':World}{B0:Nat}{T:Nat->Prop}(b:Chg T w w')(c:B0<=w.heap.size)(h:∀k,k<w.heap.size->T k->B0<=k/\∀C a,w.heap[k]?≠some (.cells C TReply a)):Fr B0 w w':=
 ⟨b.below c (fun k hk e=>(h k hk e).1),fun k C a hk=>(b.block k (ltH hk) (fun e=>(h k (ltH hk) e).2 C a hk)).trans hk⟩
theorem a0t{w:World}{v d s l:Nat}{n pn g:Int}{iv:Value}{gen seq:Nat}{sgs rcs:Int}{hv:Value}(h:w.heap[v]? =some (.cells (vaA d s l n pn g iv gen seq sgs rcs hv) TVault (0,0))):
  w.cell? ⟨v,0,none⟩=some (.pointer (some ⟨d,0,none⟩))/\w.cell? ⟨v,1,none⟩=some (.pointer (some ⟨s,0,none⟩))/\w.cell? ⟨v,2,none⟩=some (.pointer (some ⟨l,0,none⟩))/\w.cell? ⟨v,3,none⟩=some (.int .i64 n)/\w.cell? ⟨v,4,none⟩=some (.int .i64 pn)/\w.cell? ⟨v,5,none⟩=some (.int .i64 g)/\w.cell? ⟨v,6,none⟩=some iv/\w.cell? ⟨v,7,none⟩=some (.int .u64 (gen:Int))/\w.cell? ⟨v,8,none⟩=some (.int .u64 (seq:Int))/\w.cell? ⟨v,9,none⟩=some (.int .i64 sgs)/\w.cell? ⟨v,10,none⟩=some (.int .i64 rcs)/\w.cell? ⟨v,11,none⟩=some hv:=
 ⟨a0a h 0,a0a h 1,a0a h 2,a0a h 3,a0a h 4,a0a h 5,a0a h 6,a0a h 7,a0a h 8,a0a h 9,a0a h 10,a0a h 11⟩
variable {w w' : World} {B B0 d sb mb n pn g v st l : Nat} {S S' id : List UInt8} {lh wv iv hv lh' wv' iv' hv' : Value} {V : VltM} {M' : LogM}
theorem VIn.lt(h:VIn w B d sb mb n pn g S id v st l lh wv iv hv V):v<w.heap.size:=ltH h.cel
theorem VIn.size(h:VIn w B d sb mb n pn g S id v st l lh wv iv hv V):B<=w.heap.size:=Ad h.vB (Bt h.lt)
theorem VIn.below(h:VIn w B d sb mb n pn g S id v st l lh wv iv hv V)(hb:Below w.heap.size w w'):VIn w' B d sb mb n pn g S id v st l lh wv iv hv V where
 cel:=(hb.block v h.lt).trans h.cel
 st:=h.st.chgs hb
 log:=h.log.below hb
 idv:=h.idv.below hb
 dk:=h.dk.below hb
 vB:=h.vB
 lB:=h.lB
 dB:=h.dB
 sB:=h.sB
 mB:=h.mB
theorem VIn.logged(h:VIn w B d sb mb n pn g S id v st l lh wv iv hv V)(hc:Chg (fun k=>k=l∨wv.ownBlock=some k) w w')(hL:LogIn w' B l d n pn g lh wv' M'):VIn w' B d sb mb n pn g S id v st l lh wv' iv hv ⟨V.σ,M',V.gen,V.seq,V.sgs,V.rcs⟩ where
 cel:=(hc.block v h.lt (fun e=>a3Y (a1z h.log h.lB v e).2.2 (by decide) (by decide) h.cel)).trans h.cel
 st:=h.st.alien hc (fun k _ e=>.inr (a5Z (a1z h.log h.lB k e).2.2))
 log:=hL
 idv:=hc.own h.idv (fun k hk e=>by
  obtain⟨C,fr,hC⟩:=h.idv.tyb k hk;exact a3Y (a1z h.log h.lB k e).2.2 (by decide) (by decide) hC)
 dk:=h.dk.chgs hc (fun e=>by have:=(a1z h.log h.lB d e).1;have:=h.dB;omega) (fun e=>by have:=(a1z h.log h.lB sb e).1;have:=h.sB;omega) (fun e=>by have:=(a1z h.log h.lB mb e).1;have:=h.mB;omega)
 vB:=h.vB
 lB:=h.lB
 dB:=h.dB
 sB:=h.sB
 mB:=h.mB
theorem VIn.logged_st(h:VIn w B d sb mb n pn g S id v st l lh wv iv hv V)(c:Chg (fun k=>k=l∨wv.ownBlock=some k) w w'){a:Nat}{σ':StM}(b:StAt w B B w.heap.size a σ'):StAt w' B B w'.heap.size a σ':=
 b.alien c (fun k _ e=>.inr (a5Z (a1z h.log h.lB k e).2.2))
theorem VIn.logged_fr(h:VIn w B d sb mb n pn g S id v st l lh wv iv hv V)(b:Chg (fun k=>k=l∨wv.ownBlock=some k) w w')(a:B0<=B):Fr B0 w w':=
 b1i b (Ad a h.size) (fun k _ e=>⟨Ad a (a1z h.log h.lB k e).1,fun C c=>a3Y (a1z h.log h.lB k e).2.2 (by decide) (by decide)⟩)
theorem VIn.turned(h:VIn w B d sb mb n pn g S id v st l lh wv iv hv V)(i:Chg (fun k=>k=v) w w'){j:Nat}{V':VltM}(q:V'.M=V.M)(c:w'.heap[v]? =some (.cells (vaA d j l n pn g iv' V'.gen V'.seq V'.sgs V'.rcs hv') TVault (0,0)))(r:StAt w B B w.heap.size j V'.σ)(p:Own w B iv' id):VIn w' B d sb mb n pn g S id v j l lh wv iv' hv' V':=by
 have m:∀k,k<w.heap.size->k=v->k<B∨AlienS w k:=fun k _ e=>.inr (by rw[e];exact a4Y h.cel ⟨by decide,by decide,by decide,by decide,by decide,by decide,by decide⟩)
 have a:∀k C b o,k=v->TVault≠o->w.heap[k]?≠some (.cells C o b):=fun k C b o e s f=>by rw[e] at f;exact s (a1k h.cel f)
 exact⟨c,r.alien i m,by rw[q];exact h.log.chgs i (fun e=>a l _ _ _ e (by decide) h.log.cel) (fun k C b e=>a k C b _ e (by decide)) (fun k C b e=>a k C b _ e (by decide)),i.own p (fun k hk e=>by
  obtain⟨C,b,f⟩:=p.tyb k hk;exact a k C b _ e (by decide) f),h.dk.chgs i (fun e=>by have:=h.dB;have:=h.vB;omega) (fun e=>by have:=h.sB;have:=h.vB;omega) (fun e=>by have:=h.mB;have:=h.vB;omega),h.vB,h.lB,h.dB,h.sB,h.mB⟩
theorem VIn.turned_fr(h:VIn w B d sb mb n pn g S id v st l lh wv iv hv V)(b:Chg (fun k=>k=v) w w')(c:B0<=B):Fr B0 w w':=
 b1i b (Ad c h.size) (fun k _ e=>⟨by have:=h.vB;omega,fun C f a=>by rw[e] at a;exact absurd (a1k h.cel a) (by decide)⟩)
theorem b5v{a:Nat}(h:w.heap[v]? =some (.cells (vaA d st l n pn g iv V.gen V.seq V.sgs V.rcs hv) TVault (0,0))):(w.setCell ⟨v,1,none⟩ (.pointer (some ⟨a,0,none⟩))).heap[v]? =some (.cells (vaA d a l n pn g iv V.gen V.seq V.sgs V.rcs hv) TVault (0,0)):=by
 have e:=a0f (k:=1) (y:=.pointer (some ⟨a,0,none⟩)) h;unfold vaA at e⊢;simp only[Aw,qz] at e;exact e
def b8W(w:World)(v:Nat)(n pn g:Int)(iv:Value)(gen seq:Nat)(sgs rcs:Int)(hv:Value):World:=
 ((((((((w.setCell ⟨v,3,none⟩ (.int .i64 n)).setCell ⟨v,4,none⟩ (.int .i64 pn)).setCell ⟨v,5,none⟩ (.int .i64 g)).setCell ⟨v,6,none⟩ iv).setCell ⟨v,7,none⟩ (.int .u64 (gen:Int))).setCell ⟨v,8,none⟩ (.int .u64 (seq:Int))).setCell ⟨v,9,none⟩ (.int .i64 sgs)).setCell ⟨v,10,none⟩ (.int .i64 rcs)).setCell ⟨v,11,none⟩ hv
theorem b5F(w:World)(v:Nat)(n pn g:Int)(iv:Value)(gen seq:Nat)(sgs rcs:Int)(hv:Value):Chg (fun k=>k=v) w (b8W w v n pn g iv gen seq sgs rcs hv):=
 (((((((((Chg.refl (fun k=>k=v) w).setCell (p:=⟨v,3,none⟩) (fun _=>rfl) _).setCell (p:=⟨v,4,none⟩) (fun _=>rfl) _).setCell (p:=⟨v,5,none⟩) (fun _=>rfl) _).setCell (p:=⟨v,6,none⟩) (fun _=>rfl) _).setCell (p:=⟨v,7,none⟩) (fun _=>rfl) _).setCell (p:=⟨v,8,none⟩) (fun _=>rfl) _).setCell (p:=⟨v,9,none⟩) (fun _=>rfl) _).setCell (p:=⟨v,10,none⟩) (fun _=>rfl) _).setCell (p:=⟨v,11,none⟩) (fun _=>rfl) _
theorem b5G{j i m:Int}{a c:Nat}{b f:Int}(h:w.heap[v]? =some (.cells (vaA d st l n pn g iv V.gen V.seq V.sgs V.rcs hv) TVault (0,0))):(b8W w v j i m iv' a c b f hv').heap[v]? =some (.cells (vaA d st l j i m iv' a c b f hv') TVault (0,0)):=by
 have e:=a0f (k:=11) (y:=hv') (a0f (k:=10) (y:=.int .i64 f) (a0f (k:=9) (y:=.int .i64 b) (a0f (k:=8) (y:=.int .u64 (c:Int)) (a0f (k:=7) (y:=.int .u64 (a:Int)) (a0f (k:=6) (y:=iv') (a0f (k:=5) (y:=.int .i64 m) (a0f (k:=4) (y:=.int .i64 i) (a0f (k:=3) (y:=.int .i64 j) h))))))));unfold vaA at e⊢;simp only[Aw,qz] at e;exact e
theorem VIn.shut(h:VIn w B d sb mb n pn g S id v st l lh wv iv hv V)(hc:Chg (fun k=>k=l∨k=d∨k=sb∨k=mb) w w')(hL:LogIn w' B l d n pn g lh' wv' M')(hD:Dk w' d sb mb n S' nM):VIn w' B d sb mb n pn g S' id v st l lh' wv' iv hv ⟨V.σ,M',V.gen,V.seq,V.sgs,V.rcs⟩ where
 cel:=(hc.block v h.lt (by
  have:=h.vB;have:=h.dB;have:=h.sB;have:=h.mB;rintro(e | e | e | e)
  ·have h2:=h.log.cel;rw[<-e] at h2;exact absurd (a1k h.cel h2) (by decide)
  all_goals omega)).trans h.cel
 st:=h.st.alien hc (fun k _ e=>by
  have:=h.dB;have:=h.sB;have:=h.mB;rcases e with e | e | e | e
  ·exact .inr (by rw[e];exact a6r h.log)
  all_goals exact .inl (by omega))
 log:=hL
 idv:=hc.own h.idv (fun k hk e=>by
  have:=h.dB;have:=h.sB;have:=h.mB;have:=h.idv.ge k hk;obtain⟨C,fr,hC⟩:=h.idv.tyb k hk;rcases e with e | e | e | e
  ·rw[e] at hC;exact absurd (a1k h.log.cel hC) (by decide)
  all_goals omega)
 dk:=hD
 vB:=h.vB
 lB:=h.lB
 dB:=h.dB
 sB:=h.sB
 mB:=h.mB
theorem b61{k:Nat}(j:Dk w d sb mb n S nM)(e:k=d∨k=sb∨k=mb):∀C c,w.heap[k]?≠some (.cells C TReply c):=by
 intro C c b;obtain⟨_,_,_,⟨cap,wr,f,i,g,_⟩,L,h,_⟩:=j;rcases e with rfl | rfl | rfl
 ·exact absurd (a1k f b) (by decide)
 ·exact absurd (a1k g b) (by decide)
 ·obtain⟨l,m,a,_⟩:=h;rw[b] at a;injection a with a;cases a
theorem VIn.shut_fr(h:VIn w B d sb mb n pn g S id v st l lh wv iv hv V)(b:Chg (fun k=>k=l∨k=d∨k=sb∨k=mb) w w')(c:B0<=B)(i:B0<=d)(j:B0<=sb)(h3:B0<=mb):Fr B0 w w':=
 b1i b (Ad c h.size) (fun k _ e=>by
  rcases e with e | e
  ·exact⟨by have:=h.lB;omega,fun C f a=>by rw[e] at a;exact absurd (a1k h.log.cel a) (by decide)⟩
  ·exact⟨by omega,b61 h.dk e⟩)
theorem VIn.disked(h:VIn w B d sb mb n pn g S id v st l lh wv iv hv V)(a:Chg (fun k=>k=d∨k=sb∨k=mb) w w')(b:Dk w' d sb mb n S' nM):VIn w' B d sb mb n pn g S' id v st l lh wv iv hv V:=
 h.shut (a.mono (fun _ _ e=>.inr e)) (h.log.far h.lB a (fun k e=>by have:=h.dB;have:=h.sB;have:=h.mB;omega)) b
structure DoS (w W:World) (B0 B d sb mb n pn g:Nat) (S id:List UInt8) (v st l:Nat) (lh wv iv hv:Value) (V:VltM) (s2:Nat) (σ':StM) (N K:Nat) (o R:Array Value):Prop where
 vin:VIn W B d sb mb n pn g S id v st l lh wv iv hv V
 st:StAt W B B W.heap.size s2 σ'
 zo:W.heap[N]? =some (.cells o TOp (0,0))
 zr:W.heap[N+1]? =some (.cells rpZ TReply (0,0))
 zk:W.heap[K]? =some (.cells R TReply (0,0))
 ge:w.heap.size<=N
 fr:Fr B0 w W
 b0:B0<=B/\B0<=d/\B0<=sb/\B0<=mb
 le:B<=w.heap.size
variable {W W' : World} {s2 N K : Nat} {σ' : StM} {o R : Array Value}
theorem DoS.below(h:DoS w W B0 B d sb mb n pn g S id v st l lh wv iv hv V s2 σ' N K o R)(hb:Below W.heap.size W W'):DoS w W' B0 B d sb mb n pn g S id v st l lh wv iv hv V s2 σ' N K o R where
 vin:=h.vin.below hb
 st:=h.st.chgs hb
 zo:=(hb.block N (ltH h.zo)).trans h.zo
 zr:=(hb.block (N+1) (ltH h.zr)).trans h.zr
 zk:=(hb.block K (ltH h.zk)).trans h.zk
 ge:=h.ge
 fr:=h.fr.trans (Fr.of hb (Ad h.b0.1 h.vin.size))
 b0:=h.b0
 le:=h.le
theorem DoS.logged(h:DoS w W B0 B d sb mb n pn g S id v st l lh wv iv hv V s2 σ' N K o R)(hc:Chg (fun k=>k=l∨wv.ownBlock=some k) W W')(hL:LogIn W' B l d n pn g lh wv' M'):DoS w W' B0 B d sb mb n pn g S id v st l lh wv' iv hv ⟨V.σ,M',V.gen,V.seq,V.sgs,V.rcs⟩ s2 σ' N K o R where
 vin:=h.vin.logged hc hL
 st:=h.vin.logged_st hc h.st
 zo:=(hc.block N (ltH h.zo) (fun e=>a3Y (a1z h.vin.log h.vin.lB N e).2.2 (by decide) (by decide) h.zo)).trans h.zo
 zr:=(hc.block (N+1) (ltH h.zr) (fun e=>a3Y (a1z h.vin.log h.vin.lB (N+1) e).2.2 (by decide) (by decide) h.zr)).trans h.zr
 zk:=(hc.block K (ltH h.zk) (fun e=>a3Y (a1z h.vin.log h.vin.lB K e).2.2 (by decide) (by decide) h.zk)).trans h.zk
 ge:=h.ge
 fr:=h.fr.trans (h.vin.logged_fr hc h.b0.1)
 b0:=h.b0
 le:=h.le
theorem DoS.turned(h:DoS w W B0 B d sb mb n pn g S id v st l lh wv iv hv V s2 σ' N K o R)(i:Chg (fun k=>k=v) W W'){b:Nat}{V':VltM}(m:V'.M=V.M)(a:W'.heap[v]? =some (.cells (vaA d b l n pn g iv' V'.gen V'.seq V'.sgs V'.rcs hv') TVault (0,0)))(p:StAt W B B W.heap.size b V'.σ)(j:Own W B iv' id):DoS w W' B0 B d sb mb n pn g S id v b l lh wv iv' hv' V' b V'.σ N K o R:=
 have hk:∀(k:Nat) (C:Array Value) (c:TypeId),W.heap[k]? =some (.cells C c (0,0))->TVault≠c->W'.heap[k]? =some (.cells C c (0,0)):=fun k C c f q=>(i.block k (ltH f) (fun e=>by rw[e] at f;exact q (a1k h.vin.cel f))).trans f
 {vin:=h.vin.turned i m a p j
  st:=(h.vin.turned i m a p j).st
  zo:=hk N _ _ h.zo (by decide)
  zr:=hk _ _ _ h.zr (by decide)
  zk:=hk _ _ _ h.zk (by decide)
  ge:=h.ge
  fr:=h.fr.trans (h.vin.turned_fr i h.b0.1)
  b0:=h.b0
  le:=h.le }
theorem DoS.setS(h:DoS w W B0 B d sb mb n pn g S id v st l lh wv iv hv V s2 σ' N K o R):DoS w (W.setCell ⟨v,1,none⟩ (.pointer (some ⟨s2,0,none⟩))) B0 B d sb mb n pn g S id v s2 l lh wv iv hv ⟨σ',V.M,V.gen,V.seq,V.sgs,V.rcs⟩ s2 σ' N K o R:=
 h.turned ((Chg.refl (fun k=>k=v) W).setCell (p:=⟨v,1,none⟩) (fun _=>rfl) _) rfl (b5v h.vin.cel) h.st h.vin.idv
theorem DoS.setF(h:DoS w W B0 B d sb mb n pn g S id v st l lh wv iv hv V st V.σ N K o R)(a c:Nat)(b e:Int)(f:Own W B iv' id)(hv':Value):DoS w (b8W W v n pn g iv' a c b e hv') B0 B d sb mb n pn g S id v st l lh wv iv' hv' ⟨V.σ,V.M,a,c,b,e⟩ st V.σ N K o R:=
 h.turned (V':=⟨V.σ,V.M,a,c,b,e⟩) (b5F W v n pn g iv' a c b e hv') rfl (b5G h.vin.cel) h.st f
theorem VIn.shut_st(h:VIn w B d sb mb n pn g S id v st l lh wv iv hv V)(c:Chg (fun k=>k=l∨k=d∨k=sb∨k=mb) w w'){a:Nat}{σ':StM}(b:StAt w B B w.heap.size a σ'):StAt w' B B w'.heap.size a σ':=
 b.alien c (fun k _ e=>by
  have:=h.dB;have:=h.sB;have:=h.mB;rcases e with e | e | e | e
  ·exact .inr (by rw[e];exact a6r h.log)
  all_goals exact .inl (by omega))
theorem DoS.shut(h:DoS w W B0 B d sb mb n pn g S id v st l lh wv iv hv V s2 σ' N K o R)(c:Chg (fun k=>k=l∨k=d∨k=sb∨k=mb) W W')(j:LogIn W' B l d n pn g lh' wv' M')(m:Dk W' d sb mb n S' nM):DoS w W' B0 B d sb mb n pn g S' id v st l lh' wv' iv hv ⟨V.σ,M',V.gen,V.seq,V.sgs,V.rcs⟩ s2 σ' N K o R:=
 have hk:∀k C a,W.heap[k]? =some (.cells C a (0,0))->(a=TReply∨a=TOp/\B<=k)->W'.heap[k]? =some (.cells C a (0,0)):=fun k C a b i=>by
  refine(c.block k (ltH b) (fun e=>?_)).trans b;rcases e with e | e
  ·have f:=h.vin.log.cel;rw[<-e] at f;have:=a1k b f;rcases i with rfl | ⟨rfl,_⟩ <;>exact absurd this (by decide)
  ·rcases i with rfl | ⟨rfl,hk⟩
   ·exact b61 h.vin.dk e _ _ b
   ·have:=h.vin.dB;have:=h.vin.sB;have:=h.vin.mB;omega
 {vin:=h.vin.shut c j m
  st:=h.vin.shut_st c h.st
  zo:=hk N _ _ h.zo (.inr ⟨rfl,Ad h.le h.ge⟩)
  zr:=hk _ _ _ h.zr (.inl rfl)
  zk:=hk _ _ _ h.zk (.inl rfl)
  ge:=h.ge
  fr:=h.fr.trans (h.vin.shut_fr c h.b0.1 h.b0.2.1 h.b0.2.2.1 h.b0.2.2.2)
  b0:=h.b0
  le:=h.le }
theorem DoS.disked(h:DoS w W B0 B d sb mb n pn g S id v st l lh wv iv hv V st V.σ N K o R)(a:Chg (fun k=>k=d∨k=sb∨k=mb) W W')(b:Dk W' d sb mb n S' nM):DoS w W' B0 B d sb mb n pn g S' id v st l lh wv iv hv V st V.σ N K o R:=
 h.shut (a.mono (fun _ _ e=>.inr e)) (h.vin.log.far h.vin.lB a (fun k e=>by have:=h.vin.dB;have:=h.vin.sB;have:=h.vin.mB;omega)) b
theorem VIn.setReply{C:Array Value}(h:VIn w B d sb mb n pn g S id v st l lh wv iv hv V)(j:w.heap[N]? =some (.cells C TReply (0,0)))(o:B<=N)(R:Array Value):VIn (w.setRow N R) B d sb mb n pn g S id v st l lh wv iv hv V:=by
 have c:Chg (fun k=>k=N) w (w.setRow N R):=⟨rfl,rfl,rfl,by simp[World.setRow],fun k _ hk=>BY w N k R hk⟩
 have a:∀k C b i,k=N->TReply≠i->w.heap[k]?≠some (.cells C i b):=fun k C b i e m f=>by rw[e] at f;exact m (a1k j f)
 exact⟨(c.block v h.lt (fun e=>a v _ _ _ e (by decide) h.cel)).trans h.cel,h.st.alien c (fun k _ e=>.inr (by rw[e];exact a4Y j ⟨by decide,by decide,by decide,by decide,by decide,by decide,by decide⟩)),
  h.log.chgs c (fun e=>a l _ _ _ e (by decide) h.log.cel) (fun k C b e=>a k C b _ e (by decide)) (fun k C b e=>a k C b _ e (by decide)),c.own h.idv (fun k hk e=>by
  obtain⟨C,b,f⟩:=h.idv.tyb k hk;exact a k C b _ e (by decide) f),h.dk.chgs c (fun e=>by have:=h.dB;omega) (fun e=>by have:=h.sB;omega) (fun e=>by have:=h.mB;omega),h.vB,h.lB,h.dB,h.sB,h.mB⟩
theorem DoS.fin(h:DoS w W B0 B d sb mb n pn g S id v st l lh wv iv hv V s2 σ' N K o R):VIn (W.setRow (N+1) R) B d sb mb n pn g S id v st l lh wv iv hv V/\Fr B0 w (W.setRow (N+1) R):=
 ⟨h.vin.setReply h.zr (Ad h.le (Ad h.ge (As _))) R,h.fr.setRow (Ad h.b0.1 (Ad h.le (Ad h.ge (As _)))) (Ad h.ge (As _)) R⟩
theorem b7v{b:Option Addr}{c m:Nat}{xs:List UInt8}(h:Own w B (.slice b m c) xs)(g:d<B)(i:sb<B)(f:mb<B):∀a,b=some a->a.block≠d/\a.block≠sb/\a.block≠mb:=by
 intro a e;have:=h.ge a.block (by subst e;rfl);omega
def a3K(a:StM):List UInt8:=stBytes (a1C a.T) a.S a.now
theorem b3i{L s c:Nat}{a:StM}(h:StAt w L L w.heap.size s a)(b:SGd c a)(d:c<=60000)(f:L<=w.heap.size):Calls Tryz.prog 32 #[.pointer (some ⟨s,0,none⟩)] w fun e w'=>∃v,e= .returned v/\Own w' w.heap.size v (a3K a)/\(a3K a).length<=a7Z+130000000/\Below w.heap.size w w':=by
 obtain⟨t,g,i,h⟩:=h;exact a67 h (Aa _) (Commits.any h.tree b.tr d f) b.tr.commit.1 d b.sn
end
section
open Go.RowKit Go.ChangeMaps Go.MapKept
theorem b8N{w:World}{b:Nat}{n pn g:Int}{iv hv:Value}{gen seq:Nat}{sgs rcs:Int}(h:w.heap[b]? =some (.cells (a8j n pn g iv gen seq sgs rcs hv) a0T (0,0))):w.cell? ⟨b,0,none⟩=some (.int .i64 n)/\w.cell? ⟨b,1,none⟩=some (.int .i64 pn)/\w.cell? ⟨b,2,none⟩=some (.int .i64 g)/\w.cell? ⟨b,3,none⟩=some iv/\w.cell? ⟨b,4,none⟩=some (.int .u64 (gen:Int))/\w.cell? ⟨b,5,none⟩=some (.int .u64 (seq:Int))/\w.cell? ⟨b,6,none⟩=some (.int .i64 sgs)/\w.cell? ⟨b,7,none⟩=some (.int .i64 rcs)/\w.cell? ⟨b,8,none⟩=some hv:=
 ⟨a0a h 0,a0a h 1,a0a h 2,a0a h 3,a0a h 4,a0a h 5,a0a h 6,a0a h 7,a0a h 8⟩
theorem b6A{w:World}{d sb mb n k:Nat}{S:List UInt8}{C:Array Value}(h:w.heap[k]? =some (.cells C a0T (0,0)))(e:k=d∨k=sb∨k=mb)(i:Dk w d sb mb n S nM):False:=by
 obtain⟨_,_,_,⟨cap,wr,b,g,c,_⟩,L,f,_⟩:=i;rcases e with rfl | rfl | rfl
 ·exact absurd (a1k b h) (by decide)
 ·exact absurd (a1k c h) (by decide)
 ·obtain⟨j,l,a,_⟩:=f;rw[h] at a;injection a with a;cases a
theorem DoS.found{w W W':World}{B0 B d sb mb n pn g v st l N K A:Nat}{S id:List UInt8}{p q iv hv:Value}{V:VltM}{o R C:Array Value}(h:DoS w W B0 B d sb mb n pn g S id v st l p q iv hv V st V.σ N K o R)(a:W.heap[A]? =some (.cells C a0T (0,0)))(f:Chg (fun k=>k=A) W W')(r:B<=A):DoS w W' B0 B d sb mb n pn g S id v st l p q iv hv V st V.σ N K o R:=by
 have b:∀k C fr c,k=A->a0T≠c->W.heap[k]?≠some (.cells C c fr):=fun k C fr c e m i=>by rw[e] at i;exact m (a1k a i)
 have hk:∀(k:Nat) (C:Array Value) (c:TypeId),W.heap[k]? =some (.cells C c (0,0))->a0T≠c->W'.heap[k]? =some (.cells C c (0,0)):=fun k C c i m=>(f.block k (ltH i) (fun e=>b k _ _ _ e m i)).trans i
 have j:∀k,k<W.heap.size->k=A->k<B∨AlienS W k:=fun k _ e=>.inr (by rw[e];exact a4Y a ⟨by decide,by decide,by decide,by decide,by decide,by decide,by decide⟩)
 have hv:=h.vin;exact⟨⟨hk v _ _ hv.cel (by decide),hv.st.alien f j,hv.log.chgs f (fun e=>b l _ _ _ e (by decide) hv.log.cel) (fun k C fr e=>b k C fr _ e (by decide)) (fun k C fr e=>b k C fr _ e (by decide)),a0G f a (by decide) hv.idv,
  hv.dk.chgs f (fun e=>b6A a (.inl e.symm) hv.dk) (fun e=>b6A a (.inr (.inl e.symm)) hv.dk) (fun e=>b6A a (.inr (.inr e.symm)) hv.dk),hv.vB,hv.lB,hv.dB,hv.sB,hv.mB⟩,
  h.st.alien f j,hk N _ _ h.zo (by decide),hk _ _ _ h.zr (by decide),hk _ _ _ h.zk (by decide),h.ge,
  h.fr.trans (b1i f (Ad h.b0.1 hv.size) (fun k _ e=>⟨by have:=h.b0.1;omega,fun C fr=>b k C fr _ e (by decide)⟩)),h.b0,h.le⟩
theorem a5x{c:Bool}{l:List UInt8}{m:Nat}(h:c=true->l.length<=m):(if c then l else[]).length<=m:=by
 cases c
 ·simp
 ·exact h rfl
theorem b71{k:Int}{a:Ask}(h:a2y k=some a)(b:a.data=true):a.path=false/\a.to=false:=by
 unfold a2y at h;split at h <;>first | (injection h with h;subst h;first | exact⟨rfl,rfl⟩ | simp at b) | cases h
theorem b3K(o:Ov)(t:o.path.length<=210)(s:o.to.length<=210)(g:o.dat.length<=610):(opEnc o).1.length<=900:=by
 unfold opEnc;cases h:a2y o.kind with
 | none=>simp
 | some a=>
  simp only;split
  ·have u:=a5x (c:=a.path) (l:=a0j o.path) (m:=212) (fun _=>Ad (a12 _) (by omega));have k:=a5x (c:=a.to) (l:=a0j o.to) (m:=212) (fun _=>Ad (a12 _) (by omega));have p:=a5x (c:=a.fd) (l:=be o.fd.toNat 2) (m:=2) (fun _=>by simp[a0d]);have i:=a5x (c:=a.part) (l:=be o.at_.toNat 2) (m:=2) (fun _=>by simp[a0d]);have r:=a5x (c:=a.part) (l:=be o.n.toNat 2) (m:=2) (fun _=>by simp[a0d]);have q:=a5x (c:=a.til) (l:=be o.til 8) (m:=8) (fun _=>by simp[a0d]);have j:=a5x (c:=a.snap) (l:=be o.snap.toNat 2) (m:=2) (fun _=>by simp[a0d]);have d:=a5x (c:=a.data) (l:=a0j o.dat) (m:=612) (fun _=>Ad (a12 _) (by omega));unfold Ov.bytes Ov.tail;simp only[Af,a0d];cases b:a.data with
   | false=>
    rw[b] at d;simp only[AV,Cv,Ay] at d⊢;omega
   | true=>
    obtain⟨f,e⟩:=b71 h b;rw[b] at d;rw[f,e] at *;simp only[AV,Cv,BR,Ay] at *;omega
  ·simp
def b4Y(w:World)(B:Nat)(m:StM)(o:Array Value)(Q:StM->Int->Int->Nat->Nat->Nd->Prop):Prop:=
 ∀W b k c d B',B<=B'->w.heap.size<=B'->B'<=W.heap.size->Below w.heap.size w W->StIn W B B' B' b k c d m->Calls Tryz.prog 37 #[.pointer (some ⟨b,0,none⟩),.agg o] W fun e w'=>(∃a er h l g j i f n nd,e= .returned (.agg (rpC er h (.slice l g j) (.slice i f n) nd))/\Q a er h g f nd/\StAt w' B B w'.heap.size b a)/\Fr B' W w'
structure VOk (g:Nat) (m:Nat) (V:VltM) (wv:Value):Prop where
 ok:LogOk (g:Int) V.M
 lo:1<=V.M.next
 hi:V.M.next+V.M.wait.length<=m
 gen:V.gen<=m
 nil:V.M.wait=[]->wv= .slice none 0 0
 room:V.M.wait≠[]->(V.M.sealed:Int)<(g:Int)
structure PCl (n pn g:Nat) (o:Ov) (P:List UInt8->LogM->Prop):Prop where
 app:∀S M r E,opEnc o=(E,0)->r.core=(1,M.next+M.wait.length,E)->P S M->P S ⟨M.sealed,M.head,M.next,M.wait ++[r]⟩
 shut:∀S S1 M,LogOk (g:Int) M->M.wait≠[]->(M.sealed:Int)<(g:Int)->(∀j,j<n->secOf S1 j=sect S (layM nM (1+2 * pn+M.sealed * 8) (segBytes M.sealed M.next M.head M.wait) 8) j)->P S M->P S1 (sealM M)
 save:∀S S1 M gen x,x.length=128 * pn->(∀i,i<n->secOf S1 i=sect S (layM nM (ptFirst pn gen) x pn) i)->P S M->P S1 M
def VDoP(w:World)(B0 B d sb mb n pn g:Nat)(S id:List UInt8)(v x l:Nat)(t y iv hv:Value)(V:VltM)(m:Nat)(z:Nat)(A:Bool)(Q:StM->Int->Int->Nat->Nat->Nd->Prop)(P:List UInt8->LogM->Prop)(e:Ending)(w':World):Prop:=
 (∃a er p u i r q h s nd,Q a er p i h nd/\
  ((er≠0/\e= .returned (.agg (rpC er p (.slice u i r) (.slice q h s) nd))/\VIn w' B d sb mb n pn g S id v x l t y iv hv V)∨
   (er=0/\A=true/\(∃c:Nat,c≠0/\e= .returned (.agg (noC c 0)))/\VIn w' B d sb mb n pn g S id v x l t y iv hv V/\(z≠0∨(g:Int) - (V.M.sealed:Int)<=1))∨
   (er=0/\e= .returned (.agg (rpC 0 p (.slice u i r) (.slice q h s) nd))/\∃j f b k o S' V',VIn w' B d sb mb n pn g S' id v j l f b k o V'/\V'.σ=a/\VOk g (m+1) V' b/\V'.M.sealed<=V.M.sealed+2/\P S' V'.M)))/\Fr B0 w w'
def LogMid(w W:World)(B0 B d sb mb n pn g:Nat)(id:List UInt8)(v i l:Nat)(iv hv:Value)(V:VltM)(h:Nat)(c:StM)(N K m:Nat)(o R:Array Value)(P:List UInt8->LogM->Prop):Prop:=
 ∃e a b f,DoS w W B0 B d sb mb n pn g f id v i l e a iv hv ⟨V.σ,b,V.gen,V.seq,V.sgs,V.rcs⟩ h c N K o R/\VOk g (m+1) ⟨V.σ,b,V.gen,V.seq,V.sgs,V.rcs⟩ a/\b.sealed<=V.M.sealed+1/\P f b
def a8B(w W:World)(B0 B d sb mb n pn g:Nat)(id:List UInt8)(v l:Nat)(iv hv:Value)(V:VltM)(h:Nat)(a:StM)(N K m:Nat)(o R:Array Value)(P:List UInt8->LogM->Prop)(b:Bool):Prop:=
 ∃f c e j,DoS w W B0 B d sb mb n pn g j id v h l f c iv hv ⟨a,e,V.gen,V.seq,V.sgs,V.rcs⟩ h a N K o R/\VOk g (m+1) ⟨a,e,V.gen,V.seq,V.sgs,V.rcs⟩ c/\e.sealed<=V.M.sealed+2/\P j e/\(b=true->e.wait=[]/\∀i,i<8->a.fds i=none)
theorem a8F:∀(ls:List Rc),15 * ls.length<=a3p ls
 | []=>AH _
 | r :: rs=>by
  have:=a8F rs;rw[a3V,AA];omega
theorem LogMid.of{w I C:World}{B0 B d sb mb n pn g v st l:Nat}{S id:List UInt8}{Z L iv hv:Value}{V:VltM}{T N K m q X:Nat}{p:StM}{o R:Array Value}{P:List UInt8->LogM->Prop}{ov:Ov}{E:List UInt8}(h:DoS w I B0 B d sb mb n pn g S id v st l Z L iv hv V T p N K o R)(a:VOk g m V L)(hm:m<=1000000)(r:PCl n pn g ov P)(U:P S V.M)(hE:opEnc ov=(E,0))(H:X=E.length)(u:E.length<=900)(hq:q=V.M.next+V.M.wait.length)
  (ha:∃W b c M1 i,Chg (fun k=>k=l∨k=d∨k=sb∨k=mb) I W/\LogIn W B l d (n:Int) (pn:Int) (g:Int) b c M1/\Dk W d sb mb n i nM/\b0L I W n pn g S i V.M M1 Z L b c/\a3p M1.wait+15+X<=942/\(M1.sealed:Int)<(g:Int)/\
   ∃f j,j.core=(((1:Nat):Int),q,E)/\LogIn C B l d (n:Int) (pn:Int) (g:Int) b f ⟨M1.sealed,M1.head,M1.next,M1.wait ++[j]⟩/\Chg (fun k=>k=l∨c.ownBlock=some k) W C):
  LogMid w C B0 B d sb mb n pn g id v st l iv hv V T p N K m o R P:=by
 subst H;obtain⟨W,b,c,M1,i,x,J,z,hs,D,G,f,j,F,t,O⟩:=ha;have A:=(h.shut x J z).logged O t;have y:LogOk (g:Int) M1/\1<=M1.next/\M1.next+M1.wait.length=q/\M1.sealed<=V.M.sealed+1/\P i M1:=by
  rcases hs with⟨rfl,rfl,_⟩ | ⟨h1,Y,rfl,h3⟩
  ·exact⟨a.ok,a.lo,hq.symm,As _,U⟩
  ·exact⟨a.ok.shut Y,Ad a.lo (Nat.le_add_right _ _),by rw[hq];rfl,Aa _,r.shut S i V.M a.ok h1 Y h3 U⟩
 obtain⟨k1,k2,k3,k4,k5⟩:=y;have a0:=a.hi;have s:j.core=(1,M1.next+M1.wait.length,E):=by rw[F,k3];rfl
 have Q:=a8F M1.wait;refine⟨b,f,_,i,A,⟨k1.app s (t.wt.2 j (List.mem_append_right _ (AQ.2 rfl))).2.1 ⟨by omega,u,.inl rfl⟩ D (by omega) (by omega),k2,?_,Ad a.gen (As _),fun e=>by simp at e,fun _=>G⟩,k4,r.app i M1 j E hE s k5⟩;show M1.next+(M1.wait ++[j]).length<=m+1
 rw[Af,A9];omega
theorem b8k{w W:World}{B0 B d sb mb n pn g v E l A N K m gen seq:Nat}{S id:List UInt8}{D x iv hv:Value}{M:LogM}{sgs rcs:Int}{k c:StM}{o R:Array Value}{I:Ov}{P:List UInt8->LogM->Prop}(h:DoS w W B0 B d sb mb n pn g S id v E l D x iv hv ⟨k,M,gen,seq,sgs,rcs⟩ A c N K o R)(a:VOk g m ⟨k,M,gen,seq,sgs,rcs⟩ x)(G:isPlan (n:Int) (pn:Int) (g:Int))(H:1+2 * pn+g * 8<=n)(r:PCl n pn g I P)(C:P S M):
  Calls Tryz.prog 44 #[.pointer (some ⟨l,0,none⟩)] W fun e w'=>e= .returned (.int .i64 0)/\∃u f j z,DoS w w' B0 B d sb mb n pn g z id v E l u f iv hv ⟨k,j,gen,seq,sgs,rcs⟩ A c N K o R/\VOk g m ⟨k,j,gen,seq,sgs,rcs⟩ f/\j.sealed<=M.sealed+1/\P z j/\j.wait=[]:=by
 by_cases i:M.wait=[]
 ·refine(b3h h.vin.log i).mono ?_;rintro e w' ⟨rfl,rfl⟩;exact⟨rfl,D,x,M,S,h,a,As _,C,i⟩
 ·have J:=a.room i;have b:(M.sealed:Int)<(g:Int):=J;refine(b3g h.vin.log h.vin.dk h.vin.dB h.vin.sB h.vin.mB h.vin.lB h.vin.size G a.ok b i (1+2 * pn+M.sealed * 8) (by push_cast;rfl) (by omega)).mono ?_;rintro e w' ⟨rfl,⟨s,t⟩,⟨F,q,p⟩,y⟩;exact⟨rfl,s,_,_,F,h.shut y t q,⟨a.ok.shut b,Ad a.lo (Nat.le_add_right _ _),a.hi,a.gen,fun _=>rfl,fun e=>absurd rfl e⟩,Aa _,r.shut S F M a.ok i b p C,rfl⟩
def VSv(w W:World)(B0 B d sb mb n pn g:Nat)(id:List UInt8)(v p l:Nat)(s iv hv:Value)(V:VltM)(N K:Nat)(o R:Array Value)(P:List UInt8->LogM->Prop)(e:Ending)(w':World):Prop:=
 ∃(m r j:Int) (a:Option Addr) (i b g1 q:Nat) (f:Int) (h:Option Addr) (t c er:Nat) (S' X:List UInt8),e= .returned (.tuple #[.agg #[.int .i64 m,.int .i64 r,.int .i64 j,.slice a i b,.int .u64 (g1:Int),.int .u64 (q:Int),.int .i64 f,.int .i64 0,.slice h t c],.int .i64 (er:Int)])/\
  DoS w w' B0 B d sb mb n pn g S' id v p l s (.slice none 0 0) iv hv V p V.σ N K o R/\Own w' B (.slice a i b) X/\Chg (fun k=>k=d∨k=sb∨k=mb) W w'/\P S' V.M/\
  (er=0/\m=(n:Int)/\r=(pn:Int)/\j=(g:Int)/\i=16/\X=id/\g1=V.gen+1/\q=V.M.next - 1/\f=(V.M.sealed:Int)∨er≠0)
theorem b8l{w W:World}{B0 B d sb mb n pn g v s l N K m c:Nat}{S id:List UInt8}{J hv:Value}{V:VltM}{o R:Array Value}{ov:Ov}{P:List UInt8->LogM->Prop}{p:Option Addr}{r:Nat}(h:DoS w W B0 B d sb mb n pn g S id v s l J (.slice none 0 0) (.slice p 16 r) hv V s V.σ N K o R)(b:VOk g m V (.slice none 0 0))(hw:V.M.wait=[])(X:isPlan (n:Int) (pn:Int) (g:Int))(Z:1+2 * pn+g * 8<=n)(A:PCl n pn g ov P)(I:P S V.M)(hm:V.gen<=1000000)(hid:id.length=16)(T:∀i,i<8->V.σ.fds i=none)(U:SGd c V.σ)(hc:c<=60000):
  Calls Tryz.prog 45 #[.pointer (some ⟨d,0,none⟩),a6P n pn g (.slice p 16 r) V.gen V.seq V.sgs V.rcs hv,.pointer (some ⟨s,0,none⟩),.pointer (some ⟨l,0,none⟩)] W fun e w'=>VSv w W B0 B d sb mb n pn g id v s l J (.slice p 16 r) hv V N K o R P e w':=by
 have a0:=b.ok.nx;have L:Mk.right ⟨V.gen+1,V.M.next - 1,V.M.sealed,V.M.head,a3K V.σ⟩ g:=by
  refine⟨Nat.le_add_left _ _,?_,?_,Int.natCast_nonneg _,b.ok.sl,b.ok.hd⟩
  ·show V.gen+1<=1099511627776;omega
  ·show V.M.next - 1<=1099511627776;omega
 refine(b0r (M:=V.M) h.vin.dk g pn X (by omega) h.vin.log hw b.lo (by omega) p r id (h.vin.idv.bsAt hid) (b7v h.vin.idv h.vin.dB h.vin.sB h.vin.mB) V.gen V.seq V.sgs V.rcs hv (a3K V.σ) L (fun W' f=>?_) (fun W' f=>?_)).mono ?_
 ·obtain⟨t,sn,fp,F⟩:=(h.below f).st;refine(b03 F).mono ?_;rintro e w' ⟨⟨a,c,q,rfl,-,z⟩,x⟩;obtain rfl:=z.2 T;exact⟨⟨a,c,rfl⟩,x⟩
 ·refine(b3i (h.below f).st U hc (h.below f).vin.size).mono ?_;rintro e w' ⟨y,rfl,z,-,h2⟩;exact⟨y,rfl,z,h2⟩
 ·rintro e w' (⟨Y,a1,rfl,⟨H,O⟩,⟨S',E,D⟩,j,Q⟩ | ⟨rfl,f⟩)
  ·obtain⟨G,u,rfl,-⟩:=H.bsn (n:=16) hid;obtain⟨C,k,rfl,-⟩:=O.bsn (n:=32) b.ok.hd;exact⟨_,_,_,G,16,u,V.gen+1,V.M.next - 1,(V.M.sealed:Int),C,32,k,0,S',id,rfl,h.disked j E,H.base h.vin.size,j,A.save S S' V.M _ _ (a37 pn _ L.2.2.2.2.2 Q) D I,.inl ⟨rfl,rfl,rfl,rfl,rfl,rfl,rfl,rfl,rfl⟩⟩
  ·exact⟨0,0,0,none,0,0,0,0,0,none,0,0,15,S,[],rfl,h.below f,Own.nil _ _,Chg.of_below f _,I,.inr (by decide)⟩
def b75(w W:World)(B0 B d sb mb n pn g:Nat)(id:List UInt8)(v f l:Nat)(h iv hv:Value)(V:VltM)(N K:Nat)(o R:Array Value)(P:List UInt8->LogM->Prop)(A er:Nat):Prop:=
 ∃S',DoS w W B0 B d sb mb n pn g S' id v f l h (.slice none 0 0) iv hv V f V.σ N K o R/\P S' V.M/\
  (er=0/\(∃a b e i c,W.heap[A]? =some (.cells #[.int .i64 (n:Int),.int .i64 (pn:Int),.int .i64 (g:Int),.slice a 16 b,.int .u64 ((V.gen+1:Nat):Int),.int .u64 ((V.M.next - 1:Nat):Int),.int .i64 (V.M.sealed:Int),.int .i64 0,.slice e i c] a0T (0,0))/\Own W B (.slice a 16 b) id)∨er≠0)
end
end Go.Proofs.YtbemfdcjieakdaaGreatDoor
