/- Slices of strings: how they read; those of our own, and how one more is appended. -/
import Derived.Test.YtphjdlckoddgmaaArg
import Derived.Test.YtphjdlckoddgmaaStr
import Derived.Test.YtphjdlckoddgmaaConv
import Derived.Maps.AppendAt
import Derived.Laws.OwnMore
namespace Go.Proofs.Ytphjdlckoddgmaa
open Go.RowKit

abbrev TST : TypeId := 9
abbrev TSS : TypeId := 41
/-- the cell of a text -/
def sv (s : List UInt8) : Value := .string (strOf s)
/-- a slice of strings that reads as these -/
def Ss (w : World) (a : Option Addr) (len cap : Nat) (ls : List (List UInt8)) : Prop :=
  ls.length = len ∧ len ≤ cap ∧ cap ≤ maxLen ∧ (len = 0 ∨ ∃ b off, a = some ⟨b, off, none⟩ ∧ b < w.heap.size ∧ ∀ i (h : i < ls.length), w.cell? ⟨b, off + i, none⟩ = some (.string (strOf ls[i])))
theorem Ss.nil (w : World) : Ss w none 0 0 [] := ⟨rfl, Nat.le_refl _, by simp [maxLen], .inl rfl⟩
theorem Ss.below {w w' : World} {a : Option Addr} {len cap : Nat} {ls : List (List UInt8)} (h : Ss w a len cap ls) (hb : Below w.heap.size w w') : Ss w' a len cap ls := by
  obtain ⟨h1, h2, h3, h4⟩ := h
  refine ⟨h1, h2, h3, ?_⟩
  rcases h4 with h4 | ⟨b, off, h4, h5, h6⟩
  · exact .inl h4
  · exact .inr ⟨b, off, h4, Nat.lt_of_lt_of_le h5 hb.size, fun i hi => by rw [hb.cell (p := ⟨b, off + i, none⟩) h5]; exact h6 i hi⟩
theorem Ss.alloc {w : World} {a : Option Addr} {len cap : Nat} {ls : List (List UInt8)} (h : Ss w a len cap ls) (o : Obj) : Ss (w.alloc o) a len cap ls := h.below ((Below.refl _ _).alloc (Nat.le_refl _) o)
theorem Ss.take {w : World} {a : Option Addr} {len cap : Nat} {ls : List (List UInt8)} (h : Ss w a len cap ls) {k : Nat} (hk : k ≤ len) : Ss w a k cap (ls.take k) := by
  obtain ⟨h1, h2, h3, h4⟩ := h
  refine ⟨by simp; omega, by omega, h3, ?_⟩
  rcases h4 with h4 | ⟨b, off, h4, h5, h6⟩
  · exact .inl (by omega)
  · exact .inr ⟨b, off, h4, h5, fun i hi => by simp at hi; rw [h6 i (by omega)]; simp⟩
/-- where it lies, and one of its strings -/
theorem Ss.at {w : World} {a : Option Addr} {len cap : Nat} {ls : List (List UInt8)} (h : Ss w a len cap ls) (h0 : 0 < len) : ∃ b off, a = some ⟨b, off, none⟩ ∧ b < w.heap.size ∧ ∀ i (h : i < ls.length), w.cell? ⟨b, off + i, none⟩ = some (.string (strOf ls[i])) := by
  rcases h.2.2.2 with h1 | h1
  · omega
  · exact h1
theorem Can.strs {w : World} {cs : List Value} (h : Can Try.prog w 41 cs) : ∃ (a : Option Addr) (len cap : Nat) (ls : List (List UInt8)), cs = [.slice a len cap] ∧ Ss w a len cap ls ∧ ∀ s ∈ ls, s.length ≤ maxLen := by
  have hs : Try.prog.cellsOf 9 = 1 := by kernel_rfl
  obtain ⟨a, len, cap, rfl, h5, h6, h4⟩ := h.elems Try.underlying41 (by omega)
  refine ⟨a, len, cap, ?_⟩
  rcases h4 with rfl | ⟨b, off, rfl, hb, hc⟩
  · exact ⟨[], rfl, ⟨rfl, h5, h6, .inl rfl⟩, by simp⟩
  · have hx : ∀ i, i < len → ∃ x : List UInt8, w.cell? ⟨b, off + i, none⟩ = some (.string (strOf x)) ∧ x.length ≤ maxLen := fun i hi => by
      obtain ⟨cs', hr, hl, hc'⟩ := hc i hi
      obtain ⟨s, rfl, hz⟩ := hr.string Try.underlying9
      have := hc' 0 (by simp)
      rw [hs, Nat.mul_one] at this
      refine ⟨s.data.toList, ?_, by rw [Array.length_toList]; exact hz⟩
      have e : strOf s.data.toList = s := by obtain ⟨d⟩ := s; rfl
      rw [e]
      simpa using this
    obtain ⟨f, hf⟩ := Deep.choose_lt hx
    refine ⟨(List.range len).map f, rfl, ⟨by simp, h5, h6, .inr ⟨b, off, rfl, hb, fun i hi => by simp at hi; simpa using (hf i hi).1⟩⟩, fun s hs => ?_⟩
    obtain ⟨i, hi, rfl⟩ := List.mem_map.1 hs
    exact (hf i (by simpa using hi)).2

/-- a slice of strings of our own -/
def OwnS (w : World) (B : Nat) (v : Value) (ls : List (List UInt8)) : Prop := w.ownsRow B TST 1 v ls.length (ls.map sv)
theorem OwnS.nil (w : World) (B : Nat) : OwnS w B (.slice none 0 0) [] := World.ownsRow_nil w B TST 1
theorem OwnS.below {w w' : World} {B : Nat} {v : Value} {ls : List (List UInt8)} (h : OwnS w B v ls) (hb : Below w.heap.size w w') : OwnS w' B v ls :=
  World.ownsRow.kept h (row := none) ⟨hb.os, hb.tape, hb.output, hb.size, fun k hk _ => hb.block k hk⟩ (by cases v.ownBlock <;> simp)
theorem OwnS.alloc {w : World} {B : Nat} {v : Value} {ls : List (List UInt8)} (h : OwnS w B v ls) (o : Obj) : OwnS (w.alloc o) B v ls := h.below ((Below.refl _ _).alloc (Nat.le_refl _) o)
theorem OwnS.base {w : World} {B B' : Nat} {v : Value} {ls : List (List UInt8)} (h : OwnS w B' v ls) (hB : B ≤ B') : OwnS w B v ls := by
  refine ⟨h.1, ?_⟩
  rcases h.2 with h4 | ⟨g, cap, cur, h5, h6, h7⟩
  · exact .inl h4
  · exact .inr ⟨g, cap, cur, h5, Nat.le_trans hB h6, h7⟩
theorem OwnS.lt {w : World} {B : Nat} {v : Value} {ls : List (List UInt8)} (h : OwnS w B v ls) : ∀ k, v.ownBlock = some k → B ≤ k ∧ k < w.heap.size := World.ownsRow.lt h
theorem OwnS.setOther {w : World} {B : Nat} {v : Value} {ls : List (List UInt8)} (h : OwnS w B v ls) {p : Addr} (hp : ∀ b, v.ownBlock = some b → b ≠ p.block) (u : Value) : OwnS (w.setCell p u) B v ls :=
  World.ownsRow.kept h (row := some p.block) ⟨rfl, rfl, rfl, by simp [World.setCell], fun k _ hk => Below.heap_setCell _ _ _ _ (fun e => hk (by rw [e]))⟩ (by
    cases hv : v.ownBlock with
    | none => exact .inl rfl
    | some b => exact .inr fun e => hp b hv (by injection e))
/-- over a change of other blocks -/
theorem OwnS.chg {S : Nat → Prop} {w w' : World} {B : Nat} {v : Value} {ls : List (List UInt8)} (h : OwnS w B v ls) (hc : Chg S w w') (hs : ∀ k, v.ownBlock = some k → ¬ S k) : OwnS w' B v ls := by
  refine ⟨h.1, ?_⟩
  rcases h.2 with h4 | ⟨g, cap, cur, rfl, h6, h7, h8⟩
  · exact .inl h4
  · exact .inr ⟨g, cap, cur, rfl, h6, (hc.block g (Array.getElem?_eq_some_iff.1 h7).1 (hs g rfl)).trans h7, h8⟩
theorem OwnS.ss {w : World} {B n : Nat} {v : Value} {ls : List (List UInt8)} (h : OwnS w B v ls) (hn : ls.length = n) : ∃ a cap, v = .slice a n cap ∧ Ss w a n cap ls := by
  subst hn
  have h1 := h
  rcases h.2 with ⟨rfl, h4⟩ | ⟨g, cap, cur, rfl, h6, h7, h8, h9, h10, h11⟩
  · obtain rfl := List.length_eq_zero_iff.1 h4
    exact ⟨none, 0, rfl, Ss.nil w⟩
  · refine ⟨some ⟨g, 0, none⟩, cap, rfl, rfl, h8, h9, .inr ⟨g, 0, rfl, (Array.getElem?_eq_some_iff.1 h7).1, fun i hi => ?_⟩⟩
    rw [Nat.zero_add, World.ownsRow.cellAt (size := 1) h1 i (by omega)]
    simp [sv, hi]
theorem OwnS.blk {w : World} {B : Nat} {v : Value} {ls : List (List UInt8)} (h : OwnS w B v ls) : ∀ k, v.ownBlock = some k → B ≤ k := fun k hk => (h.lt k hk).1

theorem infoTST : (Try.prog.info? TST).map (fun i => (i.zero, i.size, i.bytes)) = some (some (.string ⟨#[]⟩), 1, 16) := by kernel_rfl
theorem info_partsS {i? : Option TypeInfo} {z : Value} {s b : Nat} (h : i?.map (fun i => (i.zero, i.size, i.bytes)) = some (some z, s, b)) : ∃ i, i? = some i ∧ i.zero = some z ∧ i.size = s ∧ i.bytes = b := by
  cases i? with
  | none => cases h
  | some i => simp at h; exact ⟨i, rfl, h.1, h.2.1, h.2.2⟩
/-- append(s, x) onto strings of our own: x has just been put into a literal -/
theorem run_append_str {w : World} (B : Nat) (v : Value) (ls : List (List UInt8)) (h : OwnS w B v ls) (x : List UInt8) (ty : TypeId) (hlen : ls.length + 1 ≤ 1000000) (hbase : B ≤ w.heap.size) :
    ∃ v' w', (Builtin.append_ #[41, 41] ty #[v, .slice (some ⟨w.heap.size, 0, none⟩) 1 1]).run Try.prog (w.alloc (.cells #[.string (strOf x)] TST)) = .ok v' w' ∧ OwnS w' B v' (ls ++ [x]) ∧
      (w.alloc (.cells #[.string (strOf x)] TST)).grownBy w' v.ownBlock ∧ (v'.ownBlock = v.ownBlock ∨ v'.ownBlock = some (w.heap.size + 1)) := by
  obtain ⟨i, hi, hz0, hz1, hz2⟩ := info_partsS infoTST
  obtain ⟨v', w', h1, h2, h3, _, h5⟩ := run_append_own_at (P := Try.prog) (w.alloc (.cells #[.string (strOf x)] TST)) B 41 ty TST i (.string ⟨#[]⟩) 1 16 Try.underlying41 hi hz0 hz1 hz2 rfl (by decide) v ls.length (ls.map sv)
    (h.alloc _) ⟨w.heap.size, 0, none⟩ 1 1 [sv x] (by simp) (fun j u hu => by
      match j, hu with
      | 0, hu =>
        simp at hu
        subst hu
        rw [show (⟨w.heap.size, 0, none⟩ : Addr).add 0 = ⟨w.heap.size, 0, none⟩ from rfl, World.cell?_alloc_mark]
        rfl
      | j + 1, hu => simp at hu) (by
      intro u hu
      simp at hu
      subst hu
      rfl) (by unfold maxLen; omega) (by omega) (by simp; omega)
  refine ⟨v', w', h1, ?_, h3, ?_⟩
  · unfold OwnS
    simpa using h2
  · simpa using h5
/-- the walk's form -/
theorem wpList_append_str {w : World} {ops : Array Oper} {rest : List Oper} {o : Oper} {a : Act} {Q : Exit → Act → World → Prop} (hgd : o.guard = none) (s x : Operand)
    (ho : o.op = .call { callee := .builtin .append, args := #[s, x], argTypes := #[41, 41] }) (hx : a.eval x = .slice (some ⟨w.heap.size, 0, none⟩) 1 1)
    (B : Nat) (v : Value) (ls : List (List UInt8)) (hs : a.eval s = v) (h : OwnS w B v ls) (y : List UInt8) (hlen : ls.length + 1 ≤ 1000000) (hbase : B ≤ w.heap.size)
    (hh : ∀ v' w', OwnS w' B v' (ls ++ [y]) → (w.alloc (.cells #[.string (strOf y)] TST)).grownBy w' v.ownBlock → (v'.ownBlock = v.ownBlock ∨ v'.ownBlock = some (w.heap.size + 1)) → wpList Try.prog ops Q rest (a.put o.dst v') w') :
    wpList Try.prog ops Q (o :: rest) a (w.alloc (.cells #[.string (strOf y)] TST)) := by
  refine wpList_plain hgd fun _ hK => ?_
  obtain ⟨v', w', hr, h2, h3, h4⟩ := run_append_str B v ls h y o.type hlen hbase
  unfold Oper.wp execOp
  simp only [ho, resolve, invoke, builtin, Sem.run_bind, Sem.run_pure, Result.andThen_ok, List.map_toArray, List.map_cons, List.map_nil, hs, hx, hr]
  exact hK _ _ (hh v' w' h2 h3 h4)
/-- the form at a step of a region that draws its order -/
theorem step_append_str {w : World} {ops : Array Oper} {o : Oper} {a : Act} {K : Act → World → Prop} {Q : Exit → Act → World → Prop} {E : Prop} (hgd : o.guard = none) (s x : Operand)
    (ho : o.op = .call { callee := .builtin .append, args := #[s, x], argTypes := #[41, 41] }) (hx : a.eval x = .slice (some ⟨w.heap.size, 0, none⟩) 1 1)
    (B : Nat) (v : Value) (ls : List (List UInt8)) (hs : a.eval s = v) (h : OwnS w B v ls) (y : List UInt8) (hlen : ls.length + 1 ≤ 1000000) (hbase : B ≤ w.heap.size)
    (hh : ∀ v' w', OwnS w' B v' (ls ++ [y]) → (w.alloc (.cells #[.string (strOf y)] TST)).grownBy w' v.ownBlock → (v'.ownBlock = v.ownBlock ∨ v'.ownBlock = some (w.heap.size + 1)) → K (a.put o.dst v') w') :
    if Region.wanted o (yielded ops a.tmps) = true then Oper.wp Try.prog o a (w.alloc (.cells #[.string (strOf y)] TST)) K Q else E := by
  rw [if_pos (by simp [Region.wanted, hgd])]
  obtain ⟨v', w', hr, h2, h3, h4⟩ := run_append_str B v ls h y o.type hlen hbase
  unfold Oper.wp execOp
  simp only [ho, resolve, invoke, builtin, Sem.run_bind, Sem.run_pure, Result.andThen_ok, List.map_toArray, List.map_cons, List.map_nil, hs, hx, hr]
  exact hh v' w' h2 h3 h4
end Go.Proofs.Ytphjdlckoddgmaa
