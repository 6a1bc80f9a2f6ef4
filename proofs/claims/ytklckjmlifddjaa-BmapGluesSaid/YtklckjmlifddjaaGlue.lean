/- bmap.Cut and bmap.Glue. -/
import Derived.Test.YtklckjmlifddjaaChunk
import Derived.Test.YtklckjmlifddjaaStr
import Derived.Shelf.RegionOpen
import Derived.Test.YtklckjmlifddjaaConcat
import Derived.Test.YtklckjmlifddjaaBmap
namespace Go.Proofs.Ytklckjmlifddjaa
open Go.RowKit Go.Shelf
attribute [local go_sem] Oper.semAt_some

/-- a row's blocks -/
def chk (xs : List UInt8) (k : Nat) : List UInt8 := (xs.drop (128 * k)).take 128
def chks (xs : List UInt8) : List (List UInt8) := (List.range (nblk xs.length)).map (chk xs)
theorem chks_length (xs : List UInt8) : (chks xs).length = nblk xs.length := by simp [chks]
theorem chks_upto (xs : List UInt8) (k : Nat) : ((List.range k).map (chk xs)).flatten = xs.take (128 * k) := by
  induction k with
  | zero => simp
  | succ k ih =>
    rw [List.range_succ, List.map_append, List.flatten_append, ih]
    rw [show 128 * (k + 1) = 128 * k + 128 by omega, List.take_add]
    simp [chk]
theorem chks_flat (xs : List UInt8) : (chks xs).flatten = xs := by
  unfold chks
  rw [chks_upto, List.take_of_length_le (by unfold nblk; omega)]
theorem chks_get (xs : List UInt8) (k : Nat) (h : k < nblk xs.length) : (chks xs).getD k [] = chk xs k := by
  unfold chks
  rw [List.getD_eq_getElem?_getD, List.getElem?_map, List.getElem?_range h]; rfl
theorem chk_length (xs : List UInt8) (k : Nat) : (chk xs k).length = min 128 (xs.length - 128 * k) := by simp [chk]

set_option maxRecDepth 100000 in
set_option maxHeartbeats 1000000 in
/-- the iterator keeps its contract -/
theorem chunk_stops (F : Fence) (n : Nat) (h7 : F.fn 15) (hro : F.round = none) (hn : 1 ≤ n) (Bx Bn : Nat) (a : Option Addr) (len cap : Nat) (hlc : len ≤ cap) (hle : len ≤ 1000000) (ha : 0 < len → ∃ b o, a = some ⟨b, o, none⟩) (w : World)
    (hBx : Boxed w Bx 22 (.slice a len cap)) (hBn : Boxed w Bn 3 (.int .i64 128)) :
    SeqStopsK F n Try.prog 15 #[.pointer (some ⟨Bx, 0, none⟩), .pointer (some ⟨Bn, 0, none⟩)] (fun x : CI len => #[ckV a len x.1]) (fun W W' => W'.heap[Bx]? = W.heap[Bx]? ∧ W'.heap[Bn]? = W.heap[Bn]?) (fun ys => ys.map (·.1) = List.range (nblk len)) (fun _ => True) (nblk len) w := fun l J Jx W hW hJ hJx hY h0 => by
  refine chunk1_in F n h7 hro hn l Bx Bn a len cap hlc hle ha J Jx (fun s W hs => ?_) hY W ?_ ?_ h0
  · exact hJ s W W.drew none hs ⟨rfl, rfl, rfl, Nat.le_refl _, fun _ _ _ => rfl⟩ (fun r e => by cases e)
  · exact (hW.block Bx hBx.lt).trans hBx
  · exact (hW.block Bn hBn.lt).trans hBn

theorem Bs.chunk {w : World} {a : Option Addr} {len cap : Nat} {xs : List UInt8} (h : Bs w a len cap xs) (k m : Nat) (hk : 128 * k < len) (hm : m = min 128 (len - 128 * k)) : Bs w (a.map (·.add (128 * k))) m m (chk xs k) := by
  obtain ⟨h1, h2, h3, h4⟩ := h
  refine ⟨by rw [chk_length, h1, hm], Nat.le_refl _, by omega, ?_⟩
  rcases h4 with h4 | ⟨b, off, rfl, h5, h6⟩
  · omega
  · refine .inr ⟨b, off + 128 * k, ?_, h5, fun i hi => ?_⟩
    · by_cases h0 : k = 0
      · simp [Addr.add, h0]
      · have : ¬ 128 * k = 0 := by omega
        simp [Addr.add, this]
    · have hi2 : 128 * k + i < xs.length := by rw [chk_length] at hi; omega
      have := h6 (128 * k + i) hi2
      rw [show off + 128 * k + i = off + (128 * k + i) by omega, this]
      simp [chk]
theorem Bs.keptc {w w' : World} {row : Option Nat} {a : Option Addr} {len cap : Nat} {xs : List UInt8} (h : Bs w a len cap xs) (hg : w.grownBy w' row) (hr : ∀ r, row = some r → ∃ o : Obj, w.heap[r]? = some o ∧ o.isCells = false) : Bs w' a len cap xs := by
  refine h.grown hg fun h0 ad had e => ?_
  obtain ⟨h1, h2, h3, h4⟩ := h
  rcases h4 with h4 | ⟨b, off, rfl, h5, h6⟩
  · omega
  · injection had with had; subst had
    obtain ⟨o, ho, hc⟩ := hr b e
    have := h6 0 (by omega)
    simp only [World.cell?, ho] at this
    cases o <;> simp_all [Obj.isCells]
theorem OwnL.kept {w w' : World} {row : Option Nat} {B : Nat} {v : Value} {ls : List (List UInt8)} (h : OwnL w B v ls) (hg : w.grownBy w' row) (hr : ∀ r, row = some r → ∃ o : Obj, w.heap[r]? = some o ∧ o.isCells = false) : OwnL w' B v ls := by
  obtain ⟨vs, h1, h2, h3⟩ := h
  refine ⟨vs, h1.kept hg ?_, h2, fun i hi => ?_⟩
  · rcases h1.2 with ⟨rfl, _⟩ | ⟨g, cap, cur, rfl, _, hgb, _⟩
    · exact .inl rfl
    · refine .inr fun e' => ?_
      obtain ⟨o, ho, hc⟩ := hr g (by simpa [Value.ownBlock] using e'.symm)
      rw [hgb] at ho; cases ho; cases hc
  · obtain ⟨a, m, c, h4, h5, h6⟩ := h3 i hi
    exact ⟨a, m, c, h4, h5.keptc hg hr, h6⟩

theorem Bs.off_box {w : World} {H : Nat} {T : TypeId} {a0 : Option Addr} {n0 c0 : Nat} (hx : Boxed w H T (.slice a0 n0 c0)) {a : Option Addr} {len cap : Nat} {xs : List UInt8} (h : Bs w a len cap xs) (h0 : 0 < len) (ad : Addr) (had : a = some ad) : ad.block ≠ H := by
  obtain ⟨h1, h2, h3, h4⟩ := h
  rcases h4 with h4 | ⟨b, off, rfl, h5, h6⟩
  · omega
  · injection had with had; subst had
    rintro rfl
    have := h6 0 (by omega)
    simp only [World.cell?, show w.heap[b]? = _ from hx] at this
    by_cases ho : off = 0
    · subst ho; simp at this
    · simp [ho] at this
theorem OwnL.setBox {w : World} {B H : Nat} {T : TypeId} {v : Value} {ls : List (List UInt8)} {a0 : Option Addr} {n0 c0 : Nat} (h : OwnL w B v ls) (hx : Boxed w H T (.slice a0 n0 c0)) (hBH : H < B) (u : Value) : OwnL (w.setCell ⟨H, 0, Option.none⟩ u) B v ls := by
  have hlt := h.lt
  obtain ⟨vs, h1, h2, h3⟩ := h
  refine ⟨vs, h1.kept (grownBy_setCell' w H u) ?_, h2, fun i hi => ?_⟩
  · rcases h1.2 with ⟨rfl, _⟩ | ⟨g, cap, cur, rfl, hg, _⟩
    · exact .inl rfl
    · refine .inr fun e => ?_
      have := (hlt H e).1
      omega
  · obtain ⟨a, m, c, h4, h5, h6⟩ := h3 i hi
    exact ⟨a, m, c, h4, h5.grown (grownBy_setCell' w H u) (fun h0 ad had e => h5.off_box hx h0 ad had (by injection e with e; exact e.symm)), h6⟩

theorem Own.apart {w w2 : World} {B0 : Nat} {v : Value} {ls : List (List UInt8)} {a : Option Addr} {m c : Nat} {ys : List UInt8} (_hO : OwnL w2 B0 v ls) (ho : Own w2 w.heap.size (.slice a m c) ys) (hv : ∀ k, v.ownBlock = some k → k < w.heap.size) : 0 < m → ∀ x, a = some x → v.ownBlock ≠ some x.block := fun h0 x hx e => by
  rcases ho.parts with ⟨h1, _⟩ | ⟨g, cap, h1, h2, _⟩
  · injection h1 with h1; rw [h1] at hx; cases hx
  · injection h1 with h1; rw [h1] at hx; injection hx with hx; subst hx
    have := hv _ e
    simp at this; omega
/-- the form at a step of a region that draws its order, inside a fence -/
theorem stepIn_append_row {F : Fence} {n : Nat} {w : World} {ops : Array Oper} {o : Oper} {a : Act} {K : Act → World → Prop} {Q : Exit → Act → World → Prop} {E : Prop} (hgd : Region.wanted o (yielded ops a.tmps) = true) (s x : Operand)
    (ho : o.op = .call { callee := .builtin .append, args := #[s, x], argTypes := #[24, 24] }) (hx : a.eval x = .slice (some ⟨w.heap.size, 0, Option.none⟩) 1 1)
    (B : Nat) (v : Value) (ls : List (List UInt8)) (hs : a.eval s = v) (h : OwnL w B v ls) (a' : Option Addr) (m c : Nat) (ys : List UInt8) (hy : Bs w a' m c ys) (hap : 0 < m → ∀ x, a' = some x → v.ownBlock ≠ some x.block)
    (hlen : ls.length + 1 ≤ 1000000) (hbase : B ≤ w.heap.size)
    (hh : ∀ v' w', OwnL w' B v' (ls ++ [ys]) → (w.alloc (.cells #[.slice a' m c] TBS)).grownBy w' v.ownBlock → K (a.put o.dst v') w') :
    if Region.wanted o (yielded ops a.tmps) = true then Oper.wpIn F n Try.prog o a (w.alloc (.cells #[.slice a' m c] TBS)) K Q else E := by
  rw [if_pos hgd]
  obtain ⟨v', w', hr, h2, h3⟩ := run_append_row B v ls h a' m c ys hy hap o.type hlen hbase
  unfold Oper.wpIn
  refine ⟨?_, ?_⟩
  · simp [Oper.about, ho, resolve, Target.leads, Sem.run_pure]
  · rw [Oper.semAt_plain F _ _ (by rw [ho]; intro c hc'; cases hc')]
    simp only [execOp, ho, resolve, invoke, builtin, Sem.run_bind, Sem.run_pure, Result.andThen_ok, List.map_toArray, List.map_cons, List.map_nil, hs, hx, hr]
    exact hh v' w' h2 h3
/-- a round's step on the heap -/
theorem cut_round {w W w2 w4 : World} {H : Nat} {v : Value} {ls : List (List UInt8)} {ys : List UInt8} {a0 : Option Addr} {n0 c0 : Nat} {ag : Option Addr} {N cg : Nat} {T : TypeId} {u : Value} (hv0 : v = .slice a0 n0 c0)
    (hv : Boxed W H T v) (hO : OwnL W (H + 3) v ls) (hB : Below H w W) (h3 : H + 3 ≤ W.heap.size) (hb : Below W.drew.heap.size W.drew w2)
    (hO4 : OwnL w4 (H + 3) (.slice ag N cg) (ls ++ [ys])) (hg : (w2.alloc (.cells #[u] TBS)).grownBy w4 v.ownBlock) :
    Boxed w4 H T v ∧ (KeepsOthers W (w4.setCell ⟨H, 0, none⟩ (.slice ag N cg)) ∧ ((w4.setCell ⟨H, 0, none⟩ (.slice ag N cg)).heap[H + 1]? = W.heap[H + 1]? ∧ (w4.setCell ⟨H, 0, none⟩ (.slice ag N cg)).heap[H + 1 + 1]? = W.heap[H + 1 + 1]?) ∧
      (∃ v, Boxed (w4.setCell ⟨H, 0, none⟩ (.slice ag N cg)) H T v ∧ OwnL (w4.setCell ⟨H, 0, none⟩ (.slice ag N cg)) (H + 3) v (ls ++ [ys])) ∧ (Below H w (w4.setCell ⟨H, 0, none⟩ (.slice ag N cg)) ∧ H + 3 ≤ (w4.setCell ⟨H, 0, none⟩ (.slice ag N cg)).heap.size)) := by
  subst hv0
  have hb' : Below W.heap.size W w2 := (Below.refl _ W).drew.trans hb
  have hO2 := hO.below hb'
  have hlt := hO2.lt
  have hne : ∀ k, k < H + 3 → some k ≠ (Value.slice a0 n0 c0).ownBlock := fun k hk e => by have := (hlt k e.symm).1; omega
  have hsz := hb'.size
  have hx2 : Boxed w2 H T (.slice a0 n0 c0) := (hb'.block H hv.lt).trans hv
  have hx4 : Boxed w4 H T (.slice a0 n0 c0) := (hx2.alloc _).kept hg (hne H (by omega))
  have hgs := hg.size
  simp only [World.size_alloc] at hgs
  have hbl : ∀ k, k < H + 3 → w4.heap[k]? = W.heap[k]? := fun k hk => ((hg.block k (by simp; omega) (hne k hk)).trans (Below.heap_alloc _ _ _ (by omega))).trans (hb'.block k (by omega))
  have hW4 : ∀ B, B ≤ H + 3 → Below B W w4 := fun B hB => ((hb'.mono (by omega)).alloc (by omega) _).grown hg (by simp; omega) (fun k hk => by have := (hlt k hk).1; omega)
  refine ⟨hx4, ?_, ⟨?_, ?_⟩, ⟨_, hx4.set _, hO4.setBox hx4 (by omega) _⟩, ?_, ?_⟩
  · refine (KeepsOthers.trans ⟨by omega, fun k o hk ho => (hb'.block k (Array.getElem?_eq_some_iff.1 hk).1).trans hk⟩ ((KeepsOthers.alloc w2 _).trans (KeepsOthers.of_grownBy hg fun j o ej hj => ?_))).trans (KeepsOthers.setCell _ _ _)
    obtain ⟨vs, q1, q2⟩ := hO2
    rcases q1.2 with ⟨q3, _⟩ | ⟨g, cap, cur, q3, _, hgb, _⟩
    · rw [q3] at ej; simp [Value.ownBlock] at ej
    · rw [q3] at ej
      obtain rfl : g = j := by simpa [Value.ownBlock] using ej
      rw [Below.heap_alloc _ _ _ (Array.getElem?_eq_some_iff.1 hgb).1, hgb] at hj; cases hj; rfl
  · exact (Below.heap_setCell _ _ _ _ (by show H + 1 ≠ H; omega)).trans (hbl _ (by omega))
  · exact (Below.heap_setCell _ _ _ _ (by show H + 1 + 1 ≠ H; omega)).trans (hbl _ (by omega))
  · exact (hB.trans (hW4 H (by omega))).setCell (p := ⟨H, 0, none⟩) (Nat.le_refl _) _
  · have : (w4.setCell ⟨H, 0, none⟩ (.slice ag N cg)).heap.size = w4.heap.size := by simp [World.setCell]
    omega

set_option maxRecDepth 100000 in
set_option maxHeartbeats 4000000 in
theorem cutb_any (a : Option Addr) (len cap : Nat) (xs : List UInt8) (w : World) (h : Bs w a len cap xs) (hl : len ≤ 1000000) :
    Calls Try.prog 5 #[.slice a len cap] w fun e w' => ∃ v, e = .returned v ∧ OwnL w' w.heap.size v (chks xs) ∧ Below w.heap.size w w' := by
  refine (callsIn_wide (n := 3)).1 ?_
  refine callsIn_of_wp_marks Try.func5 rfl trivial ?_ rfl
  simp only [Try.ntmps5, List.size_toArray, List.length_cons, List.length_nil, Nat.reduceAdd, Nat.reduceSub, Array.replicate_succ, Array.replicate_zero, List.push_toArray, List.append_toArray, List.nil_append, List.cons_append]
  gi_wp2_with (refine ⟨trivial, ?_⟩; gi_at_call 10; refine (chunk_in Fence.wide _ trivial rfl a len cap _).mono ?_; rintro e w' ⟨rfl, rfl⟩)
  have bO := Boxed.new w 24 (.slice none 0 0)
  have bS := Boxed.new (w.alloc (.cells #[.slice none 0 0] 24)) 22 (.slice a len cap)
  have bN := Boxed.new ((w.alloc (.cells #[.slice none 0 0] 24)).alloc (.cells #[.slice a len cap] 22)) 3 (.int .i64 128)
  simp only [World.size_alloc] at bS bN
  have hB0 : Below w.heap.size w (((w.alloc (.cells #[.slice none 0 0] 24)).alloc (.cells #[.slice a len cap] 22)).alloc (.cells #[.int .i64 128] 3)) := (((Below.refl _ w).alloc (Nat.le_refl _) _).alloc (by simp) _).alloc (by simp; omega) _
  have hpos : 0 < len → ∃ b o, a = some ⟨b, o, none⟩ := fun h0 => by
    rcases h.2.2.2 with h1 | ⟨b, o, h1, _⟩
    · omega
    · exact ⟨b, o, h1⟩
  have bO3 := (bO.alloc (.cells #[.slice a len cap] 22)).alloc (.cells #[.int .i64 128] 3)
  have bS3 := bS.alloc (.cells #[.int .i64 128] 3)
  obtain ⟨w3, hw3⟩ : ∃ w3, w3 = (((w.alloc (.cells #[.slice none 0 0] 24)).alloc (.cells #[.slice a len cap] 22)).alloc (.cells #[.int .i64 128] 3)) := ⟨_, rfl⟩
  have hsz : w3.heap.size = w.heap.size + 3 := by rw [hw3]; simp
  rw [← hw3] at bO3 bS3 bN hB0 ⊢
  clear hw3 bO bS
  obtain ⟨H, hH⟩ : ∃ H, H = w.heap.size := ⟨_, rfl⟩
  rw [← hH] at bO3 bS3 bN hB0 hsz ⊢
  have HH := Lib.hid hH
  clear hH
  refine wpIn_rangeFunc_ownG rfl (by omega) (gf := 15) (lb := #[.pointer (some ⟨H + 1, 0, none⟩), .pointer (some ⟨H + 1 + 1, 0, none⟩)]) rfl trivial (enters_of Try.func15 (by kernel_rfl) rfl)
    (chunk_stops Fence.wide _ trivial rfl (by omega) (H + 1) (H + 1 + 1) a len cap h.2.1 hl hpos w3 bS3 bN)
    (fun h1 h2 => ⟨h2.1.trans h1.1, h2.2.trans h1.2⟩)
    (fun W l o o' hle hlo _ _ => ⟨World.putObj_heap_other (by omega), World.putObj_heap_other (by omega)⟩)
    (Below.refl _ _) (fun _ => rfl)
    (fun pre W => (∃ v, Boxed W H 24 v ∧ OwnL W (H + 3) v (pre.map fun x => chk xs x.1)) ∧ (Below H w W ∧ H + 3 ≤ W.heap.size))
    (fun _ _ _ => False)
    ?own
    (fun _ _ _ _ _ hs _ _ => hs)
    ⟨⟨_, bO3, OwnL.nil _ _⟩, hB0, by omega⟩
    (fun x => { tmps := #[.slice a len cap, undef, .slice none 0 0, .pointer (some ⟨H, 0, none⟩), ckV a len x.1, .slice a len cap, .func (.func 15) #[] #[.pointer (some ⟨H + 1, 0, none⟩), .pointer (some ⟨H + 1 + 1, 0, none⟩)], ckV a len x.1, undef, undef, undef, undef, undef, undef], defers := [] }) ?assign ?body ?done ?stop
  case own =>
    rintro s A B row ⟨⟨v, hv, hO⟩, hB, h3⟩ hg hr
    refine ⟨⟨v, hv.kept hg (fun e => ?_), hO.kept hg (fun r e => (hr r e).2)⟩, hB.grown hg (by omega) (fun k e => by have := (hr k e).1; omega), Nat.le_trans h3 hg.size⟩
    have := (hr H e.symm).1
    omega
  case assign =>
    intro l x W K hK
    gi_wp2
    exact hK
  case body =>
    rintro l pre x W ⟨⟨v, hv, hO⟩, hB, h3⟩ hlt
    have hc := hv.cell
    have hf := hv.frozen
    have hmx : Try.prog.follows .mixedOrders = true := by kernel_rfl
    obtain ⟨m, hm⟩ : ∃ m, m = min 128 (len - 128 * x.1) := ⟨_, rfl⟩
    have hBx : Bs W (a.map (·.add (128 * x.1))) m m (chk xs x.1) := (h.chunk x.1 m x.2 hm).below (by rw [← HH.out]; exact hB)
    have hmb : m ≤ 128 := by omega
    dsimp only [ckV]
    rw [← hm]
    generalize a.map (·.add (128 * x.1)) = ax at *
    have HBx := Lib.hid hBx
    clear hBx hm
    gi_wp2
    obtain ⟨a0, c0, n0, hv0⟩ : ∃ a0 c0 n0, v = .slice a0 n0 c0 := by
      obtain ⟨a0, c0, e, _⟩ := hO.ll rfl
      exact ⟨a0, c0, _, e⟩
    subst hv0
    have HO := Lib.hid hO
    clear hO
    have hnb : nblk len ≤ 100000 := by unfold nblk; omega
    refine wpIn_region_any (by kernel_rfl) ?_
    change wpAnyIn _ _ _ _ _ _ _ _ _ (World.drew _)
    refine wpAnyIn_ready (rs := [0, 1]) (by kernel_rfl) (by simp) ?_
    refine (AllReadyIn.cons rfl (fun K hK => ?_) (AllReadyIn.cons rfl (fun K hK => ?_) AllReadyIn.nil))
    · go_simp
      refine hK _ _ ?_
      clear hK K
      refine wpAnyIn_ready (rs := [1]) (by kernel_rfl) (by simp) ?_
      refine (AllReadyIn.cons rfl (fun K hK => ?_) AllReadyIn.nil)
      go_simp
      refine hK _ _ ?_
      clear hK K
      refine wpAnyIn_ready (rs := [2]) (by kernel_rfl) (by simp) ?_
      refine (AllReadyIn.cons rfl (fun K hK => ?_) AllReadyIn.nil)
      go_simp
      refine ⟨trivial, ?_⟩
      refine (CallsIn.inRound l (callsIn_wide.2 (clone_any ax m m (chk xs x.1) _ HBx.out.drew (by unfold big; omega)))).mono ?_
      rintro e w2 ⟨v', rfl, ho, hb⟩
      obtain ⟨ca, cc, rfl, hcB⟩ := ho.bsn HBx.out.1
      have hx2 : Boxed w2 H 24 (.slice a0 n0 c0) := (((Below.refl _ W).drew.trans hb).block H hv.lt).trans hv
      have hc2 := hx2.cell
      gi_wp2
      (first | (refine hK _ _ ?_; clear hK K) | skip)
      refine wpAnyIn_ready (rs := [3]) (by kernel_rfl) (by simp) ?_
      refine (AllReadyIn.cons rfl (fun K hK => ?_) AllReadyIn.nil)
      go_simp
      have hcA := (hx2.alloc (.cells #[.slice ca m cc] 22)).cell
      refine hK _ _ ?_
      clear hK K
      refine wpAnyIn_ready (rs := [4]) (by kernel_rfl) (by simp) ?_
      refine (AllReadyIn.cons rfl (fun K hK => ?_) AllReadyIn.nil)
      have hO2 := HO.out.below ((Below.refl _ W).drew.trans hb)
      refine stepIn_append_row (by rfl) _ _ rfl (by rfl) (H + 3) _ _ (by rfl) hO2 ca m cc _ hcB (Own.apart hO2 ho (fun k hk => by have := (HO.out.lt k hk).2; simpa using this)) (by rw [List.length_map]; omega) (by have := hb.size; simp at this; omega) (fun v4 w4 hO4 hg4 => ?_)
      obtain ⟨N, hN⟩ : ∃ N, N = (List.map (fun x => chk xs x.1) pre ++ [chk xs x.1]).length := ⟨_, rfl⟩
      obtain ⟨ag, cg, rfl, _⟩ := hO4.ll hN.symm
      obtain ⟨hx4, hR⟩ := cut_round rfl hv HO.out hB h3 hb hO4 hg4
      have hc4 := hx4.cell
      have hf4 := hx4.frozen
      clear hN
      refine hK _ _ ?_
      clear hK K
      refine wpAnyIn_ready (rs := [5]) (by kernel_rfl) (by simp) ?_
      refine (AllReadyIn.cons rfl (fun K hK => ?_) AllReadyIn.nil)
      go_simp
      refine hK _ _ ?_
      clear hK K
      refine wpAnyIn_done (by kernel_rfl) ?_ _
      gi_wp2
      exact ⟨hR.1.from _, hR.2.1, ⟨by rw [List.map_append]; exact hR.2.2.1, hR.2.2.2⟩⟩
    · go_simp
      refine hK _ _ ?_
      clear hK K
      refine wpAnyIn_ready (rs := [0, 2]) (by kernel_rfl) (by simp) ?_
      refine (AllReadyIn.cons rfl (fun K hK => ?_) (AllReadyIn.cons rfl (fun K hK => ?_) AllReadyIn.nil))
      · go_simp
        refine hK _ _ ?_
        clear hK K
        refine wpAnyIn_ready (rs := [2]) (by kernel_rfl) (by simp) ?_
        refine (AllReadyIn.cons rfl (fun K hK => ?_) AllReadyIn.nil)
        go_simp
        refine ⟨trivial, ?_⟩
        refine (CallsIn.inRound l (callsIn_wide.2 (clone_any ax m m (chk xs x.1) _ HBx.out.drew (by unfold big; omega)))).mono ?_
        rintro e w2 ⟨v', rfl, ho, hb⟩
        obtain ⟨ca, cc, rfl, hcB⟩ := ho.bsn HBx.out.1
        have hx2 : Boxed w2 H 24 (.slice a0 n0 c0) := (((Below.refl _ W).drew.trans hb).block H hv.lt).trans hv
        have hc2 := hx2.cell
        gi_wp2
        (first | (refine hK _ _ ?_; clear hK K) | skip)
        refine wpAnyIn_ready (rs := [3]) (by kernel_rfl) (by simp) ?_
        refine (AllReadyIn.cons rfl (fun K hK => ?_) AllReadyIn.nil)
        go_simp
        have hcA := (hx2.alloc (.cells #[.slice ca m cc] 22)).cell
        refine hK _ _ ?_
        clear hK K
        refine wpAnyIn_ready (rs := [4]) (by kernel_rfl) (by simp) ?_
        refine (AllReadyIn.cons rfl (fun K hK => ?_) AllReadyIn.nil)
        have hO2 := HO.out.below ((Below.refl _ W).drew.trans hb)
        refine stepIn_append_row (by rfl) _ _ rfl (by rfl) (H + 3) _ _ (by rfl) hO2 ca m cc _ hcB (Own.apart hO2 ho (fun k hk => by have := (HO.out.lt k hk).2; simpa using this)) (by rw [List.length_map]; omega) (by have := hb.size; simp at this; omega) (fun v4 w4 hO4 hg4 => ?_)
        obtain ⟨N, hN⟩ : ∃ N, N = (List.map (fun x => chk xs x.1) pre ++ [chk xs x.1]).length := ⟨_, rfl⟩
        obtain ⟨ag, cg, rfl, _⟩ := hO4.ll hN.symm
        obtain ⟨hx4, hR⟩ := cut_round rfl hv HO.out hB h3 hb hO4 hg4
        have hc4 := hx4.cell
        have hf4 := hx4.frozen
        clear hN
        refine hK _ _ ?_
        clear hK K
        refine wpAnyIn_ready (rs := [5]) (by kernel_rfl) (by simp) ?_
        refine (AllReadyIn.cons rfl (fun K hK => ?_) AllReadyIn.nil)
        go_simp
        refine hK _ _ ?_
        clear hK K
        refine wpAnyIn_done (by kernel_rfl) ?_ _
        gi_wp2
        exact ⟨hR.1.from _, hR.2.1, ⟨by rw [List.map_append]; exact hR.2.2.1, hR.2.2.2⟩⟩
      · go_simp
        refine ⟨trivial, ?_⟩
        refine (CallsIn.inRound l (callsIn_wide.2 (clone_any ax m m (chk xs x.1) _ HBx.out.drew (by unfold big; omega)))).mono ?_
        rintro e w2 ⟨v', rfl, ho, hb⟩
        obtain ⟨ca, cc, rfl, hcB⟩ := ho.bsn HBx.out.1
        have hx2 : Boxed w2 H 24 (.slice a0 n0 c0) := (((Below.refl _ W).drew.trans hb).block H hv.lt).trans hv
        have hc2 := hx2.cell
        gi_wp2
        (first | (refine hK _ _ ?_; clear hK K) | skip)
        refine wpAnyIn_ready (rs := [0, 3]) (by kernel_rfl) (by simp) ?_
        refine (AllReadyIn.cons rfl (fun K hK => ?_) (AllReadyIn.cons rfl (fun K hK => ?_) AllReadyIn.nil))
        · go_simp
          refine hK _ _ ?_
          clear hK K
          refine wpAnyIn_ready (rs := [3]) (by kernel_rfl) (by simp) ?_
          refine (AllReadyIn.cons rfl (fun K hK => ?_) AllReadyIn.nil)
          go_simp
          have hcA := (hx2.alloc (.cells #[.slice ca m cc] 22)).cell
          refine hK _ _ ?_
          clear hK K
          refine wpAnyIn_ready (rs := [4]) (by kernel_rfl) (by simp) ?_
          refine (AllReadyIn.cons rfl (fun K hK => ?_) AllReadyIn.nil)
          have hO2 := HO.out.below ((Below.refl _ W).drew.trans hb)
          refine stepIn_append_row (by rfl) _ _ rfl (by rfl) (H + 3) _ _ (by rfl) hO2 ca m cc _ hcB (Own.apart hO2 ho (fun k hk => by have := (HO.out.lt k hk).2; simpa using this)) (by rw [List.length_map]; omega) (by have := hb.size; simp at this; omega) (fun v4 w4 hO4 hg4 => ?_)
          obtain ⟨N, hN⟩ : ∃ N, N = (List.map (fun x => chk xs x.1) pre ++ [chk xs x.1]).length := ⟨_, rfl⟩
          obtain ⟨ag, cg, rfl, _⟩ := hO4.ll hN.symm
          obtain ⟨hx4, hR⟩ := cut_round rfl hv HO.out hB h3 hb hO4 hg4
          have hc4 := hx4.cell
          have hf4 := hx4.frozen
          clear hN
          refine hK _ _ ?_
          clear hK K
          refine wpAnyIn_ready (rs := [5]) (by kernel_rfl) (by simp) ?_
          refine (AllReadyIn.cons rfl (fun K hK => ?_) AllReadyIn.nil)
          go_simp
          refine hK _ _ ?_
          clear hK K
          refine wpAnyIn_done (by kernel_rfl) ?_ _
          gi_wp2
          exact ⟨hR.1.from _, hR.2.1, ⟨by rw [List.map_append]; exact hR.2.2.1, hR.2.2.2⟩⟩
        · go_simp
          have hcA := (hx2.alloc (.cells #[.slice ca m cc] 22)).cell
          refine hK _ _ ?_
          clear hK K
          refine wpAnyIn_ready (rs := [0]) (by kernel_rfl) (by simp) ?_
          refine (AllReadyIn.cons rfl (fun K hK => ?_) AllReadyIn.nil)
          go_simp
          refine hK _ _ ?_
          clear hK K
          refine wpAnyIn_ready (rs := [4]) (by kernel_rfl) (by simp) ?_
          refine (AllReadyIn.cons rfl (fun K hK => ?_) AllReadyIn.nil)
          have hO2 := HO.out.below ((Below.refl _ W).drew.trans hb)
          refine stepIn_append_row (by rfl) _ _ rfl (by rfl) (H + 3) _ _ (by rfl) hO2 ca m cc _ hcB (Own.apart hO2 ho (fun k hk => by have := (HO.out.lt k hk).2; simpa using this)) (by rw [List.length_map]; omega) (by have := hb.size; simp at this; omega) (fun v4 w4 hO4 hg4 => ?_)
          obtain ⟨N, hN⟩ : ∃ N, N = (List.map (fun x => chk xs x.1) pre ++ [chk xs x.1]).length := ⟨_, rfl⟩
          obtain ⟨ag, cg, rfl, _⟩ := hO4.ll hN.symm
          obtain ⟨hx4, hR⟩ := cut_round rfl hv HO.out hB h3 hb hO4 hg4
          have hc4 := hx4.cell
          have hf4 := hx4.frozen
          clear hN
          refine hK _ _ ?_
          clear hK K
          refine wpAnyIn_ready (rs := [5]) (by kernel_rfl) (by simp) ?_
          refine (AllReadyIn.cons rfl (fun K hK => ?_) AllReadyIn.nil)
          go_simp
          refine hK _ _ ?_
          clear hK K
          refine wpAnyIn_done (by kernel_rfl) ?_ _
          gi_wp2
          exact ⟨hR.1.from _, hR.2.1, ⟨by rw [List.map_append]; exact hR.2.2.1, hR.2.2.2⟩⟩
  case done =>
    rintro D ys W hD hys ⟨⟨v, hv, hO⟩, hB, h3⟩ hK
    have hc := hv.cell
    obtain ⟨a0, c0, hv0, _⟩ := hO.ll rfl
    have hch : ys.map (fun x => chk xs x.1) = chks xs := by
      have e := congrArg (List.map (chk xs)) hys
      rw [List.map_map] at e
      unfold chks
      rw [h.1]
      exact e
    rw [hch] at hO
    clear hch
    subst hv0
    gi_wp2
    refine ⟨by simp, .inl ⟨_, _, rfl, run_takeDeferred hK, ?_⟩⟩
    have hO2 := (hO.kept (grownBy_putObj' W D (.deferred Option.none)) (fun r e => by cases e; exact ⟨_, hK, rfl⟩)).weaken (show H ≤ H + 3 by omega)
    rw [List.length_map, HH.out] at hO2
    have hB2 := hB.trans (belowK_b (w := w3) (by omega) W D _ (.deferred Option.none) hD hK rfl rfl)
    rw [HH.out] at hB2
    refine ⟨_, results_tmp rfl _ _ _, ?_⟩
    exact ⟨_, rfl, hO2, hB2⟩
  case stop =>
    rintro D c pre W _ _ h _
    exact h.elim
end Go.Proofs.Ytklckjmlifddjaa
