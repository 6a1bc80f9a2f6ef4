/- TopKeepsWalk; ShapedAnd. -/
import Derived.Handed
import Derived.HandedShaped
import Derived.Shelf.Vars
import Derived.Test.YtabdcphioccgnaaGreatDoorK49
set_option maxRecDepth 100000
set_option maxHeartbeats 8000000
namespace Go.Proofs.YtabdcphioccgnaaGreatDoor
section
open Go.RowKit Go.ChangeMaps Go.MapKept
def U64s (w : World) (a : Option Addr) (len cap : Nat) (xs : List Nat) : Prop :=
 xs.length = len /\ len <= cap /\ cap <= maxLen /\ (len = 0 ∨ ∃ b off,a = some ⟨b,off,none⟩ /\ b < w.heap.size /\ ∀ i (h : i < xs.length),w.cell? ⟨b,off + i,none⟩ = some (.int .u64 (xs[i] : Int)) /\ xs[i] < 18446744073709551616)
theorem Arg.u64s {P : Program} {w : World} {t e : TypeId} {v : Value} (h : Arg P w t v) (ht : P.underlying t = some (.slice e)) (he : P.underlying e = some (.int .u64)) (hs : P.cellsOf e = 1) :
  ∃ (a : Option Addr) (len cap : Nat) (xs : List Nat),v = .slice a len cap /\ U64s w a len cap xs:=by
 obtain ⟨a,len,cap,rfl,h2⟩:=h.sliceCan ht
 obtain ⟨a',len',cap',h3,h5,h6,h4⟩:=h2.elems ht (by omega)
 cases h3
 refine ⟨a,len,cap,?_⟩
 rcases h4 with rfl | ⟨b,off,rfl,hb,hc⟩
 ·exact ⟨[],rfl,rfl,h5,h6,.inl rfl⟩
 ·have hx : ∀ i,i < len -> ∃ x : Nat,w.cell? ⟨b,off + i,none⟩ = some (.int .u64 (x : Int)) /\ x < 18446744073709551616:=fun i hi => by
   obtain ⟨cs',hr,hl,hc'⟩:=hc i hi
   obtain ⟨n,rfl,hw⟩:=hr.int he
   have hn : 0 <= n /\ n < 18446744073709551616:=by simp [Lit.wf,IntKind.min,IntKind.max,IntKind.bits,IntKind.signed] at hw; omega
   have:=hc' 0 (by simp)
   rw [hs,Nat.mul_one] at this
   refine ⟨n.toNat,?_,by omega⟩
   rw [show ((n.toNat : Nat) : Int) = n by omega]
   simpa using this
  obtain ⟨f,hf⟩:=Deep.choose_lt hx
  exact ⟨(List.range len).map f,rfl,by simp,h5,h6,.inr ⟨b,off,rfl,hb,fun i hi => by simp at hi; simpa using hf i hi⟩⟩
def KR (w wr : World) (d i : Nat) (a b : Value) : Prop:=∃ v now S V P0 P1 sg,a = .pointer (some ⟨v,0,none⟩) /\ b = .int .u64 ((now : Nat) : Int) /\ KL w wr d v i now 1 S V P0 P1 sg
def KS (w wr : World) (d v i now : Nat) : Prop:=∃ S V P0 P1 sg,KL w wr d v i now 0 S V P0 P1 sg /\ newerP P0 P1 = mkP V.σ V.M V.gen
theorem KS.one {w wr : World} {d v i now : Nat} (h : KS w wr d v i now) : KR w wr d i (.pointer (some ⟨v,0,none⟩)) (.int .u64 (now : Int)):=by
 obtain ⟨S,V,P0,P1,sg,h,_⟩:=h
 exact ⟨v,now,S,V,P0,P1,sg,rfl,rfl,{ h with wl:=Nat.le_succ_of_le h.wl,wb:=by have:=h.wb; omega }⟩
theorem u64_mod (x : Nat) : (x : Int).tmod 200 = ((x % 200 : Nat) : Int):=by
 rw [Int.tmod_eq_emod_of_nonneg (by omega)]; omega
theorem TopKeeps_walk (v0 v1 : Value) (w : World) (h0 : Arg Tryz.prog w 22 v0) (h1 : Arg Tryz.prog w 23 v1) (hg : Glob w) :
  Calls Tryz.prog 3 #[v0,v1] w fun e w' => e = .returned (.bool true) /\ Below w.heap.size w w':=by
 obtain ⟨ua,un,uc,us,rfl,hU⟩:=h0.u64s Tryz.underlying22 Tryz.underlying32 (by kernel_rfl)
 obtain ⟨oa,on,oc,os,rfl,hO⟩:=h1.bools Tryz.underlying23 Tryz.underlying4 (by kernel_rfl)
 have HB:=qh (tbegin_ok 1200 74 (by omega) (by omega) (by decide) w)
 have HGL:=qh hg
 have HUO:=qh (aI hU hO)
 clear hg hU hO h0 h1
 go_enter Tryz.func3,Tryz.ntmps3
 go_wp2_with fail
 refine HB.out.mono ?_
 rintro e w1 ⟨⟨d,v,x,S,V,P0,P1,sg,rfl,hK,hD,hσ,hse,hnx,hwl,hwb,hgn⟩,hb1⟩
 have HC:=qh (k_turn (w:=w1) 1 (by omega) [47,97] [] 0 0 0 0 0 none 0 0 (oSt []) 0 zeroNd hK hD (c:=0) (by rw [hσ]; exact newT_ok) (by omega) (by rw [hσ]; exact Nat.zero_le _) [] [1,0,2,47,97] (Bs.nil _) rfl (by simp [safeN]) enc_create (by decide) (by omega) (by rw [hwb]; decide) (by omega) (by omega) (fun B => by rw [hσ]; exact vd_create (HGL.out.below hb1)))
 unfold ovCells rpC zeroNd at HC
 have HB1:=qh hb1
 have HN1:=qh (aI hse (aI hnx (aI hwl (aI hwb hgn))))
 clear hK hD hσ hse hnx hwl hwb hgn hb1 HB
 go_wp2_with fail
 refine HC.out.mono ?_
 rintro e w2 ⟨rfl,⟨V2,hK2,hD2,hσ2,hse2,hnx2,hwl2,hwb2,hgn2⟩,hF2⟩
 have HB2:=qh (HB1.out.trans hF2.1)
 have hN2 : V2.M.sealed = 0 /\ V2.M.next = 1 /\ V2.M.wait.length = 2 /\ waitB V2.M.wait = 35 /\ V2.gen = 2:=by
  obtain ⟨hse,hnx,hwl,hwb,hgn⟩:=HN1.out
  exact ⟨by omega,by omega,by omega,by rw [hwb2,hwb]; rfl,by omega⟩
 have HC2:=qh (k_shut (w:=w2) 6 (by omega) [] [] 0 0 0 5 0 none 0 0 (aSt [] 5) 0 zeroNd hK2 hD2 (c:=1) (by rw [hσ2]; exact tr_a _ 0 false (by decide) (by decide)) (by omega) (by rw [hσ2]; exact Nat.zero_le _) [] [6,0,0,0,0,0,0,0,0,0,5] (Bs.nil _) rfl (by rw [hσ2,writes_o]; simp [safeN]) enc_close (by decide) (by omega) (by rw [hN2.2.2.2.1]; decide) (by omega) (by omega) (fun B => by rw [hσ2]; exact vd_close (HGL.out.below HB2.out) _ (by decide)))
 unfold ovCells rpC zeroNd at HC2
 have HN2:=qh hN2
 clear hK2 hD2 hσ2 hse2 hnx2 hwl2 hwb2 hgn2 hF2 hN2 HC HN1 HB1
 have fd0 : ∀ w : World,(Instr.field 36 (.agg #[.int .i64 0,.int .i64 0,.slice none 0 0,.slice none 0 0,.int .i64 0,.int .i64 0,.int .i64 0,.int .i64 0,.int .u64 0,.bool false]) 0).run Tryz.prog w = .ok (.int .i64 0) w:=fun _ => by kernel_rfl
 go_wp2_with fail
 refine HC2.out.mono ?_
 rintro e w3 ⟨rfl,⟨S3,V3,sg3,hK3,hD3,hσ3,hse3,hnx3,hwl3,hgn3⟩,hF3⟩
 have HL3:=qh (show KR w w3 d 0 (.pointer (some ⟨v,0,none⟩)) (.int .u64 ((5 : Nat) : Int)) from ⟨v,5,S3,V3,P0,P1,sg3,rfl,rfl,⟨hK3,hD3,hσ3,by omega,by omega,by have:=HN2.out; omega,by have:=HN2.out; omega,by have:=HN2.out; omega,by rw [hwl3]; exact Nat.zero_le _,by rw [hwl3]; exact Nat.zero_le _,by have:=HN2.out; omega,HB2.out.trans hF3.1⟩⟩)
 clear hK3 hD3 hσ3 hse3 hnx3 hwl3 hgn3 hF3 HC2 HN2 HB2
 go_wp2_with fail
 go_loopw [6,8,9] (fun a b c wr => ∃ i : Nat,i <= 15 /\ c = .int .i64 (i : Int) /\ KR w wr d i a b) (fun _ _ c _ => 15 - (intOf c).toNat)
 case atStart => exact ⟨0,by omega,rfl,HL3.out⟩
 case round =>
  obtain ⟨i,hi15,rfl,v,now,S,V,P0,P1,sg,rfl,rfl,hL⟩:=hrel
  have HL:=qh hL
  clear hL HL3
  by_cases hin : i < un /\ i < 15
  ·obtain ⟨hin1,hin2⟩:=hin
   have q1 : (i : Int) < (un : Int):=by omega
   have q2 : (i : Int) < 15:=by omega
   have q0 : (0 : Int) <= (i : Int):=by omega
   obtain ⟨ub,uo,x0,rfl,cu⟩ : ∃ (b o x : Nat),ua = some ⟨b,o,none⟩ /\ wr.cell? ⟨b,o + i,none⟩ = some (.int .u64 (x : Int)):=by
    have hU:=HUO.out.1
    rcases hU.2.2.2 with h | ⟨b,off,h1,h2,h3⟩
    ·omega
    ·exact ⟨b,off,us[i]'(by rw [hU.1]; exact hin1),h1,(HL.out.bl.cell (p:=⟨b,off + i,none⟩) h2).trans (h3 i (by rw [hU.1]; exact hin1)).1⟩
   have e1:=u64_mod x0
   obtain ⟨u,hu⟩:=qnm (x0 % 200)
   rw [<- hu] at e1
   have hu2 : u < 200:=by omega
   have HK:=qh (keep_step HGL.out HL.out hin2 u hu2)
   unfold ovCells noC at HK
   have HIN:=qh (aI hin1 (aI hin2 hi15))
   clear hin1 hin2 hi15 hu hu2
   go_wp2_with fail
   refine HK.out.mono ?_
   rintro e w4 ⟨rfl,⟨V4,hL4⟩,hF4⟩
   obtain ⟨er,her⟩ : ∃ er : Int,er = if u < now then 28 else 0:=⟨_,rfl⟩
   rw [<- her]
   obtain ⟨w5,hw5⟩:=qnm (w4.alloc (.cells (noC er 0) TReply))
   obtain ⟨A,hA⟩:=qnm w4.heap.size
   have hb5:=qba hw5
   have hz5 : w5.heap[A]? = some (.cells (noC er 0) TReply (0,0)):=by rw [hw5,hA]; exact heap_alloc_new w4 _
   have a0 : w5.cell? ⟨A,0,none⟩ = some (.int .i64 er):=cells_at hz5 0
   have HSY:=qh (sync_step HGL.out (hL4.below hb5) HIN.out.2.1)
   unfold ovCells noC at HSY
   unfold noC at hw5
   have HW5:=qh (aI hw5 hA)
   have HER:=qh her
   clear hw5 hA hb5 hz5 hL4 hF4 her HK cu HL e1
   go_upto_region 13 with fail
   rw [<- HW5.out.1,<- HW5.out.2]
   clear HW5
   go_cut [71] (fun s wx => s = .bool false /\ KS w wx d v (i + 1) (nowMax now u))
   case first =>
    by_cases hlt : u < now
    ·have he : er = 28:=by rw [HER.out,if_pos hlt]
     subst he
     have p1 : ¬ (now : Int) <= (u : Int):=by omega
     have p2 : (u : Int) < (now : Int):=by omega
     have p3 : decide ((now : Int) <= (u : Int)) = false:=decide_eq_false p1
     have p4 : decide ((u : Int) < (now : Int)) = true:=decide_eq_true p2
     clear hlt
     go_wp2_with fail
     refine HSY.out.mono ?_
     rintro e w6 ⟨rfl,hS6,hF6⟩
     have HS6:=qh (show KS w w6 d v (i + 1) (nowMax now u) from hS6)
     clear hS6 hF6
     go_wp2_with fail
     go_meet
     exact ⟨rfl,HS6.out⟩
    ·have he : er = 0:=by rw [HER.out,if_neg hlt]
     subst he
     have p1 : (now : Int) <= (u : Int):=by omega
     have p2 : ¬ (u : Int) < (now : Int):=by omega
     have p3 : decide ((now : Int) <= (u : Int)) = true:=decide_eq_true p1
     have p4 : decide ((u : Int) < (now : Int)) = false:=decide_eq_false p2
     clear hlt
     go_wp2_with fail
     refine HSY.out.mono ?_
     rintro e w6 ⟨rfl,hS6,hF6⟩
     have HS6:=qh (show KS w w6 d v (i + 1) (nowMax now u) from hS6)
     clear hS6 hF6
     go_wp2_with fail
     go_meet
     exact ⟨rfl,HS6.out⟩
   case rest =>
    obtain ⟨rfl,hKS⟩:=hcut
    have HKS:=qh hKS
    clear hKS HSY a0 HER
    obtain ⟨w6,hw6⟩:=qnm wc
    rw [<- hw6] at HKS ⊢
    clear hw6
    go_upto_if 74 with fail
    go_cut [8] (fun s wx => s = .int .u64 ((nowMax now u : Nat) : Int) /\ wx = w6)
    case first =>
     by_cases hgt : now < u
     ·have p1 : (now : Int) < (u : Int):=by omega
      have p2 : decide ((now : Int) < (u : Int)) = true:=decide_eq_true p1
      have e : nowMax now u = u:=if_neg (by omega)
      have HE:=qh e
      clear hgt e
      go_wp2_with fail
      go_meet
      exact ⟨by rw [HE.out],rfl⟩
     ·have p1 : ¬ (now : Int) < (u : Int):=by omega
      have p2 : decide ((now : Int) < (u : Int)) = false:=decide_eq_false p1
      have e : nowMax now u = now:=by
       unfold nowMax
       split
       ·rfl
       ·omega
      have HE:=qh e
      clear hgt e
      go_wp2_with fail
      go_meet
      exact ⟨by rw [HE.out],rfl⟩
    case rest =>
     obtain ⟨rfl,hw⟩:=hcut
     rw [hw]
     clear hw wc
     generalize nowMax now u = nm at *
     go_upto_region 17 with fail
     go_cut [85] (fun s wx => (∃ f,s = .bool f) /\ wx = w6)
     case first =>
      have hO:=HUO.out.2
      by_cases hio : i < on
      ·have p1 : (i : Int) < (on : Int):=by omega
       obtain ⟨ob,oo,f,rfl,co⟩ : ∃ (b o : Nat) (f : Bool),oa = some ⟨b,o,none⟩ /\ w6.cell? ⟨b,o + i,none⟩ = some (.bool f):=by
        obtain ⟨_,_,_,_,_,hL,_⟩:=HKS.out
        rcases hO.2.2.2 with h | ⟨b,off,h1,h2,h3⟩
        ·omega
        ·exact ⟨b,off,os[i]'(by rw [hO.1]; exact hio),h1,(hL.bl.cell (p:=⟨b,off + i,none⟩) h2).trans (h3 i (by rw [hO.1]; exact hio))⟩
       clear hO hio
       go_wp2_with fail
       go_meet
       exact ⟨⟨f,rfl⟩,rfl⟩
      ·have p1 : ¬ (i : Int) < (on : Int):=by omega
       have p2 : decide ((i : Int) < (on : Int)) = false:=decide_eq_false p1
       clear hO hio
       go_wp2_with fail
       go_meet
       exact ⟨⟨false,rfl⟩,rfl⟩
     case rest =>
      obtain ⟨⟨f,rfl⟩,hw⟩:=hcut
      rw [hw]
      clear hw wc
      go_step
      go_cut [6] (fun s wx => KR w wx d (i + 1) s (.int .u64 ((nm : Nat) : Int)))
      case first =>
       cases f with
       | false =>
        have HK1:=qh (HKS.out.one)
        go_wp2_with fail
        go_meet
        exact HK1.out
       | true =>
        obtain ⟨S6,V6,P06,P16,sg6,hL6,hne6⟩:=HKS.out
        have HCR:=qh (crash_step hL6 (-1) 0)
        have HNE:=qh hne6
        clear hL6 hne6
        go_wp2_with fail
        refine HCR.out.mono ?_
        rintro e w7 ⟨rfl,hL7⟩
        have HOP:=qh (open_step hL7 (by have:=HIN.out; omega) HNE.out)
        clear hL7 HCR
        go_wp2_with fail
        refine HOP.out.mono ?_
        rintro e w8 ⟨⟨v8,V8,rfl,hL8⟩,hb8⟩
        have HK8:=qh (show KR w w8 d (i + 1) (.pointer (some ⟨v8,0,none⟩)) (.int .u64 ((nm : Nat) : Int)) from ⟨v8,nm,_,V8,_,_,_,rfl,rfl,hL8⟩)
        clear hL8 hb8 HOP
        go_wp2_with fail
        go_meet
        exact HK8.out
      case rest =>
       obtain ⟨v9,nm',S9,V9,P09,P19,sg9,rfl,hnm,hL9⟩:=hcut
       obtain rfl : nm' = nm:=by injection hnm with _ h; omega
       have HST:=qh (stat_step HGL.out hL9)
       unfold ovCells rpC fileN at HST
       clear hL9 hnm HKS
       have fd1 : ∀ w : World,(Instr.field 36 (.agg #[.int .i64 0,.int .i64 0,.slice none 0 0,.slice none 0 0,.int .i64 1,.int .i64 1,.int .i64 1,.int .i64 0,.int .u64 (nm' : Int),.bool true]) 4).run Tryz.prog w = .ok (.agg #[.int .i64 1,.int .i64 1,.int .i64 1,.int .i64 0,.int .u64 (nm' : Int),.bool true]) w:=fun _ => by kernel_rfl
       have fd2 : ∀ w : World,(Instr.field 34 (.agg #[.int .i64 1,.int .i64 1,.int .i64 1,.int .i64 0,.int .u64 (nm' : Int),.bool true]) 4).run Tryz.prog w = .ok (.int .u64 (nm' : Int)) w:=fun _ => by kernel_rfl
       have ne1 : ((nm' : Int) != (nm' : Int)) = false:=by rw [bne,beq_self_eq_true]; rfl
       go_wp2_with fail
       refine HST.out.mono ?_
       rintro e w10 ⟨rfl,hL10,_⟩
       have HK10:=qh (show KR w w10 d (i + 1) (.pointer (some ⟨v9,0,none⟩)) (.int .u64 ((nm' : Nat) : Int)) from ⟨v9,nm',_,V9,_,_,_,rfl,rfl,hL10⟩)
       clear hL10 HST
       go_wp2_with fail
       go_roundw
       case rel =>
        exact ⟨i + 1,by have:=HIN.out; omega,by go_num,HK10.out⟩
       case measure =>
        have:=HIN.out
        simp [intOf]
        omega
  ·have HUN:=qh (unl_step HGL.out HL.out)
   unfold ovCells noC at HUN
   have fd3 : ∀ w : World,(Instr.field 36 (.agg #[.int .i64 28,.int .i64 0,.slice none 0 0,.slice none 0 0,.int .i64 0,.int .i64 0,.int .i64 0,.int .i64 0,.int .u64 0,.bool false]) 0).run Tryz.prog w = .ok (.int .i64 28) w:=fun _ => by kernel_rfl
   have hex : ¬ (i : Int) < (un : Int) ∨ (i : Int) < (un : Int) /\ ¬ (i : Int) < 15:=by
    by_cases h : i < un
    ·right
     have : ¬ i < 15:=fun h2 => hin ⟨h,h2⟩
     omega
    ·left; omega
   clear hin hi15
   rcases hex with p1 | ⟨p0,p1⟩
   all_goals
    go_wp2_with fail
    refine HUN.out.mono ?_
    rintro e w4 ⟨rfl,hF4⟩
    have hb4:=HL.out.bl.trans hF4.1
    have HAW:=qh (awake_any w4 (HGL.out.below hb4))
    have HB4:=qh hb4
    clear hF4 hb4
    go_wp2_with fail
    refine HAW.out.mono ?_
    rintro e w5 ⟨rfl,hb5⟩
    have HF:=qh (HB4.out.trans (hb5.mono HB4.out.size))
    clear hb5
    go_wp2_with fail
    go_ret
    exact ⟨rfl,HF.out⟩
end
section
open Go.RowKit
theorem glob_of_shaped {W : World} (h : W.ShapedOpen Tryz.prog) : Glob W :=
 cell_of_shapedOpen_int (g:=2) (t:=3) (zero:=#[.int .i64 0]) (k:=.i64) h (of_decide_eq_true (by kernel_rfl)) (by kernel_rfl) rfl (by kernel_rfl) (by kernel_rfl) Tryz.underlying3
theorem returnsInHanded_of_change_and_shaped {H : Type} {enc : TypeId × Value -> H} {a : Assume} {C : Checked} {os : Os} {f : FuncId} {fn : Func} {s : ChangeSpec} {conds : List PathCond} {apart fresh handsOn again : Bool} {X : World -> Array Value -> Prop}
  (hX : ∀ (w w' : World) (args : Array Value),w.heap = w'.heap -> X w args -> X w' args)
  (own : ownKnob C.prog.godebug = none) (started : os.Started) (noInit : C.prog.inits.idxOf? f = none) (hfn : C.prog.funcs[f]? = some fn)
  (witness : ∃ (w : World) (tape : Tape) (i : Input),w.os = os /\ (w.forCall tape i).Shaped C.prog /\ i.vars = [] /\ Input.okWide C.prog (w.forCall tape i) .any w.heap.size f i /\
   ((s.pre enc C.prog fn conds apart (w.forCall tape i).memory i.args /\ X (w.forCall tape i).memory i.args) /\ sizedMet enc C.prog fn (OpenSpec.ofChange s) apart (w.forCall tape i).memory i.args) /\ a.holds C.prog (lone (Frame.enter C.prog f i.args .normal) [] (w.forCall tape i)))
  (contract : ∀ (W : World) (base : Nat) (args : Array Value) (ds gs : List (DataW H)) (before : List MemPlace),
   (∀ (j : Nat) t v,fn.params[j]? = some t -> args[j]? = some v -> Value.okWide C.prog W .any base t v) ->
   DataW.Whole enc C.prog fn.params.toList s.vars apart W args.toList ds gs before ->
   conds.all (PathCond.test C.prog ⟨fn.params.toList,ds,s.plain.varTypes C.prog,gs⟩) = true ->
   (DataW.weightsEach C.prog (fn.params.toList ++ s.plain.varTypes C.prog) (ds ++ gs)).all (· <= reachBytes) = true -> X W args -> W.ShapedOpen C.prog ->
   a.holds C.prog (lone (Frame.enter C.prog f args .normal) [] W) ->
   Calls C.prog f args W fun e W' => ∃ v,e = .returned v /\ s.post enc C.prog fn apart fresh handsOn again W args v W') :
  ReturnsInHanded a C os f .any (fun w args => (s.pre enc C.prog fn conds apart w args /\ X w args) /\ sizedMet enc C.prog fn (OpenSpec.ofChange s) apart w args) (s.post enc C.prog fn apart fresh handsOn again):=by
 refine returnsInHanded_of_calls own started noInit witness ?_
 intro w tape i _ hsh _ hok hpre hholds
 obtain ⟨_,_,_,fn',hfn',_,_,_,_,hval⟩:=hok
 have e : fn' = fn:=Option.some.inj (hfn'.symm.trans hfn)
 subst e
 obtain ⟨⟨⟨ds,gs,before,hw,hc⟩,hx⟩,hz⟩:=hpre
 have hw':=DataW.Whole.of_heap (w':=w.forCall tape i) (by rfl) hw
 refine (contract (w.forCall tape i) w.heap.size i.args ds gs before hval hw' hc (hz.weights hw) (hX _ _ _ (by rfl) hx) hsh hholds).mono fun e W' ⟨v,he,hp⟩ => ?_
 subst he
 exact ChangeSpec.post_blind hp
end
end Go.Proofs.YtabdcphioccgnaaGreatDoor
