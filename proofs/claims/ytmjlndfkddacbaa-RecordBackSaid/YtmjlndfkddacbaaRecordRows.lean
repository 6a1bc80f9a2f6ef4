/- Rows of records and of numbers that a law of record makes for itself; the records that came in. -/
import Derived.Test.YtmjlndfkddacbaaRecordTurned
import Derived.Test.YtmjlndfkddacbaaRecordNo
import Derived.Test.YtmjlndfkddacbaaRecordArg
import Derived.Test.YtmjlndfkddacbaaRecordLaw
namespace Go.Proofs.Ytmjlndfkddacbaa
open Go.RowKit

/-- the number of the type of records -/
abbrev TR : TypeId := 27
/-- the number of the type of ints -/
abbrev TI : TypeId := 3

structure Ac where
  k : Nat
  q : Nat
  a : Option Addr
  m : Nat
  c : Nat
  ys : List UInt8
def Ac.cells (r : Ac) : List Value := [.int .i64 (r.k : Int), .int .u64 (r.q : Int), .slice r.a r.m r.c]
def Ac.bytes (r : Ac) : List UInt8 := recBytes r.k r.q r.ys
def Ac.Ok (w : World) (r : Ac) : Prop := RecOk (r.k : Int) r.q r.m ∧ r.m ≤ 80 ∧ Bs w r.a r.m r.c r.ys
def acCells (rs : List Ac) : List Value := (rs.map Ac.cells).flatten
def flat (rs : List Ac) : List UInt8 := (rs.map Ac.bytes).flatten
def upTo (rs : List Ac) (i : Nat) : Nat := (flat (rs.take i)).length
def endsC (rs : List Ac) : List Value := (List.range rs.length).map fun i => .int .i64 (upTo rs (i + 1) : Int)

theorem acCells_snoc (rs : List Ac) (r : Ac) : acCells (rs ++ [r]) = acCells rs ++ r.cells := by simp [acCells]
theorem flat_snoc (rs : List Ac) (r : Ac) : flat (rs ++ [r]) = flat rs ++ r.bytes := by simp [flat]
theorem endsC_snoc (rs : List Ac) (r : Ac) : endsC (rs ++ [r]) = endsC rs ++ [.int .i64 ((flat rs ++ r.bytes).length : Int)] := by
  simp only [endsC, List.length_append, List.length_cons, List.length_nil, List.range_succ, List.map_append, List.map_cons, List.map_nil, Nat.zero_add]
  congr 1
  · refine List.map_congr_left fun i hi => ?_
    rw [List.mem_range] at hi
    rw [upTo, upTo, List.take_append_of_le_length (by omega)]
  · rw [upTo, List.take_of_length_le (by simp), flat_snoc]
    simp
theorem acCells_length (rs : List Ac) : (acCells rs).length = rs.length * 3 := by
  induction rs with
  | nil => rfl
  | cons r rs ih => simp only [acCells, List.map_cons, List.flatten_cons, List.length_append, List.length_cons] at *; rw [ih]; simp [Ac.cells]; omega
theorem acCells_at (rs : List Ac) (i : Nat) (hi : i < rs.length) (j : Nat) (hj : j < 3) : (acCells rs)[i * 3 + j]? = rs[i].cells[j]? := by
  induction rs generalizing i with
  | nil => simp at hi
  | cons r rs ih =>
    have hl : r.cells.length = 3 := rfl
    simp only [acCells, List.map_cons, List.flatten_cons]
    cases i with
    | zero => rw [List.getElem?_append_left (by omega)]; simp
    | succ i =>
      rw [List.getElem?_append_right (by omega), hl, show (i + 1) * 3 + j - 3 = i * 3 + j by omega]
      have := ih i (by simpa using hi)
      simp only [acCells] at this
      rw [this]
      simp
theorem endsC_at (rs : List Ac) (i : Nat) (hi : i < rs.length) : (endsC rs)[i]? = some (.int .i64 (upTo rs (i + 1) : Int)) := by
  simp [endsC, hi]
theorem upTo_succ (rs : List Ac) (i : Nat) (hi : i < rs.length) : upTo rs (i + 1) = upTo rs i + rs[i].bytes.length := by
  rw [upTo, upTo, List.take_succ_eq_append_getElem hi, flat_snoc, List.length_append]
theorem flat_append (xs ys : List Ac) : flat (xs ++ ys) = flat xs ++ flat ys := by simp [flat]
theorem flat_split (rs : List Ac) (i : Nat) (hi : i < rs.length) : flat rs = flat (rs.take i) ++ (rs[i].bytes ++ flat (rs.drop (i + 1))) := by
  have : flat (rs.take i ++ (rs[i] :: rs.drop (i + 1))) = flat (rs.take i) ++ (rs[i].bytes ++ flat (rs.drop (i + 1))) := by rw [flat_append]; rfl
  rwa [← List.drop_eq_getElem_cons hi, List.take_append_drop] at this
theorem flat_drop (rs : List Ac) (i : Nat) (hi : i < rs.length) : (flat rs).drop (upTo rs i) = rs[i].bytes ++ flat (rs.drop (i + 1)) := by
  rw [flat_split rs i hi, upTo, List.drop_left]
theorem Ac.Ok.length {w : World} {r : Ac} (h : r.Ok w) : r.bytes.length = 15 + r.m := by
  have := h.2.2.1
  have h2 := h.2.1
  rw [Ac.bytes, recBytes_length _ _ _ (by omega), this]
theorem flat_le {w : World} (rs : List Ac) (h : ∀ r ∈ rs, r.Ok w) : (flat rs).length ≤ rs.length * 95 := by
  induction rs with
  | nil => simp [flat]
  | cons r rs ih =>
    have h1 := (h r (by simp)).length
    have h2 := (h r (by simp)).2.1
    have h3 := ih fun x hx => h x (by simp [hx])
    simp only [flat, List.map_cons, List.flatten_cons, List.length_append, List.length_cons] at *
    omega
theorem upTo_le (rs : List Ac) (i : Nat) : upTo rs i ≤ (flat rs).length := by
  have := flat_append (rs.take i) (rs.drop i)
  rw [List.take_append_drop] at this
  rw [this, upTo, List.length_append]; omega

theorem ownsRow_below {w w' : World} {B n size : Nat} {e : TypeId} {v : Value} {xs : List Value} (h : w.ownsRow B e size v n xs) (hb : Below w.heap.size w w') : w'.ownsRow B e size v n xs :=
  h.kept (row := none) ⟨hb.os, hb.tape, hb.output, hb.size, fun k hk _ => hb.block k hk⟩ (by cases hv : v.ownBlock <;> simp)
/-- rows of unlike types lie apart -/
theorem ownsRow_apart {w : World} {B n size B' n' size' : Nat} {e e' : TypeId} {v v' : Value} {xs xs' : List Value} (h : w.ownsRow B e size v n xs) (h' : w.ownsRow B' e' size' v' n' xs') (hne : e ≠ e') :
    v.ownBlock = none ∨ v.ownBlock ≠ v'.ownBlock := by
  rcases h.2 with ⟨rfl, _⟩ | ⟨g, cap, cur, rfl, hb, hg, _⟩
  · exact .inl rfl
  · refine .inr fun e1 => ?_
    rcases h'.2 with ⟨rfl, _⟩ | ⟨g', cap', cur', rfl, hb', hg', _⟩
    · cases e1
    · simp [Value.ownBlock] at e1
      subst e1
      rw [hg] at hg'
      injection hg' with e2
      injection e2 with e3 e4
      exact hne e4
theorem ownsRow_setCell {w : World} {B n size : Nat} {e : TypeId} {v : Value} {xs : List Value} (h : w.ownsRow B e size v n xs) (p : Addr) (u : Value) (hp : v.ownBlock ≠ some p.block) : (w.setCell p u).ownsRow B e size v n xs :=
  h.kept (row := some p.block) ⟨rfl, rfl, rfl, by simp [World.setCell], fun k _ hk => Below.heap_setCell _ _ _ _ (fun e => hk (by rw [e]))⟩ (.inr hp)

/-- what the law holds: all the records' bytes, the records, where each ends -/
structure Held (w : World) (H : Nat) (b s e : Value) (rs : List Ac) (W : World) : Prop where
  ext : Ext H w W
  b : Own W H b (flat rs)
  s : W.ownsRow H TR 3 s rs.length (acCells rs)
  e : W.ownsRow H TI 1 e rs.length (endsC rs)
  ok : ∀ r ∈ rs, r.Ok w
theorem Held.step {w W W' : World} {H : Nat} {b s e : Value} {rs : List Ac} (h : Held w H b s e rs W) (hb : Below W.heap.size W W') : Held w H b s e rs W' :=
  ⟨h.ext.step hb, h.b.below hb, ownsRow_below h.s hb, ownsRow_below h.e hb, h.ok⟩
theorem Held.alloc {w W : World} {H : Nat} {b s e : Value} {rs : List Ac} (h : Held w H b s e rs W) (o : Obj) : Held w H b s e rs (W.alloc o) := h.step ((Below.refl _ _).alloc (Nat.le_refl _) o)
theorem Held.le {w W : World} {H : Nat} {b s e : Value} {rs : List Ac} (h : Held w H b s e rs W) : (flat rs).length ≤ rs.length * 95 := flat_le rs h.ok

theorem Held.shape {w W : World} {H : Nat} {b s e : Value} {rs : List Ac} (h : Held w H b s e rs W) :
    ∃ F R ab cb asx cs ae ce, F = (flat rs).length ∧ R = rs.length ∧ b = .slice ab F cb ∧ s = .slice asx R cs ∧ e = .slice ae R ce := by
  obtain ⟨ab, cb, h1, _⟩ := h.b.bs
  rcases h.s.2 with ⟨h2, h3⟩ | ⟨g, cap, cur, h2, _⟩ <;> rcases h.e.2 with ⟨h4, h5⟩ | ⟨g', cap', cur', h4, _⟩
  · exact ⟨_, _, ab, cb, _, _, _, _, rfl, rfl, h1, by rw [h2, h3], by rw [h4, h5]⟩
  · exact ⟨_, _, ab, cb, _, _, _, _, rfl, rfl, h1, by rw [h2, h3], h4⟩
  · exact ⟨_, _, ab, cb, _, _, _, _, rfl, rfl, h1, h2, by rw [h4, h5]⟩
  · exact ⟨_, _, ab, cb, _, _, _, _, rfl, rfl, h1, h2, h4⟩
theorem Held.bytes {w W : World} {H F : Nat} {s e : Value} {ab : Option Addr} {cb : Nat} {rs : List Ac} (h : Held w H (.slice ab F cb) s e rs W) (hF : F = (flat rs).length) : Bs W ab F cb (flat rs) := by
  obtain ⟨a', c', h1, h2⟩ := h.b.bsn hF.symm
  injection h1 with e1 e2 e3
  subst e1 e3
  exact h2
/-- .. and where they lie, if there are any -/
theorem Held.blocks {w W : World} {H lb n n' : Nat} {ab asx ae : Option Addr} {cb cs ce : Nat} {rs : List Ac} (h : Held w H (.slice ab lb cb) (.slice asx n cs) (.slice ae n' ce) rs W) (h0 : 0 < rs.length) :
    ∃ gb gs ge, ab = some ⟨gb, 0, none⟩ ∧ asx = some ⟨gs, 0, none⟩ ∧ ae = some ⟨ge, 0, none⟩ ∧ H ≤ gb ∧ gb ≠ gs ∧ gb ≠ ge := by
  have hl : 0 < (flat rs).length := by
    cases rs with
    | nil => simp at h0
    | cons r rs => have := (h.ok r (by simp)).length; simp only [flat, List.map_cons, List.flatten_cons, List.length_append]; omega
  rcases h.b.parts with ⟨_, h1⟩ | ⟨gb, c1, h1, h1b, _⟩
  · rw [h1] at hl; simp at hl
  · rcases h.s.2 with ⟨_, h2⟩ | ⟨gs, c2, cur, h2, _⟩
    · omega
    · rcases h.e.2 with ⟨_, h3⟩ | ⟨ge, c3, cur', h3, _⟩
      · omega
      · have q1 := ownsRow_apart h.b h.s (by decide)
        have q2 := ownsRow_apart h.b h.e (by decide)
        injection h1 with h1 _ _; injection h2 with h2 _ _; injection h3 with h3 _ _
        subst h1 h2 h3
        refine ⟨gb, gs, ge, rfl, rfl, rfl, h1b, ?_, ?_⟩
        · rintro rfl; simp [Value.ownBlock] at q1
        · rintro rfl; simp [Value.ownBlock] at q2
theorem Held.at {w W : World} {H : Nat} {b e : Value} {gs n cs : Nat} {rs : List Ac} (h : Held w H b (.slice (some ⟨gs, 0, none⟩) n cs) e rs W) (hn : n = rs.length) (i : Nat) (hi : i < rs.length) :
    W.cell? ⟨gs, i * 3, none⟩ = some (.int .i64 (rs[i].k : Int)) ∧ W.cell? ⟨gs, i * 3 + 1, none⟩ = some (.int .u64 (rs[i].q : Int)) ∧ W.cell? ⟨gs, i * 3 + 2, none⟩ = some (.slice rs[i].a rs[i].m rs[i].c) := by
  subst hn
  have q := fun j (hj : j < 3) => (h.s.cellAt (i * 3 + j) (by omega)).trans (acCells_at rs i hi j hj)
  exact ⟨q 0 (by omega), q 1 (by omega), q 2 (by omega)⟩
theorem Held.ends {w W : World} {H : Nat} {b s : Value} {ge n ce : Nat} {rs : List Ac} (h : Held w H b s (.slice (some ⟨ge, 0, none⟩) n ce) rs W) (hn : n = rs.length) (i : Nat) (hi : i < rs.length) :
    W.cell? ⟨ge, i, none⟩ = some (.int .i64 (upTo rs (i + 1) : Int)) := by
  subst hn
  rw [h.e.cellAt i (by omega), endsC_at rs i hi]

theorem infoTR : (Try.prog.info? TR).map (fun i => (i.zero, i.size, i.bytes)) = some (some (.agg #[.int .i64 0, .int .u64 0, .slice none 0 0]), 3, 40) := by kernel_rfl
theorem infoTI : (Try.prog.info? TI).map (fun i => (i.zero, i.size, i.bytes)) = some (some (.int .i64 0), 1, 8) := by kernel_rfl
theorem cells_new (w : World) (cs : List Value) (t : TypeId) : ∀ j u, cs[j]? = some u → (w.alloc (.cells cs.toArray t)).cell? ((⟨w.heap.size, 0, none⟩ : Addr).add j) = some u := by
  intro j u hu
  have he : (⟨w.heap.size, 0, none⟩ : Addr).add j = ⟨w.heap.size, 0 + j, none⟩ := by by_cases hi0 : j = 0 <;> simp [Addr.add, hi0]
  rw [he, Nat.zero_add, World.cell?_alloc_mark]
  simpa using hu

/-- append of bytes onto the first -/
theorem append_b {w W : World} {H : Nat} {b s e : Value} {rs : List Ac} (h : Held w H b s e rs W) (r : Ac) (hr : r.Ok w) {ops : Array Oper} {rest : List Oper} {o : Oper} {a : Act} {Q : Exit → Act → World → Prop} (hgd : o.guard = none) (sl x : Operand)
    (ho : o.op = .call { callee := .builtin .append, args := #[sl, x], argTypes := #[25, 25] }) (hs : a.eval sl = b) (ad : Option Addr) (n c : Nat) (hx : a.eval x = .slice ad n c) (hB : Bs W ad n c r.bytes)
    (hlen : rs.length ≤ 12)
    (hh : ∀ b' W', Ext H w W' → Own W' H b' (flat rs ++ r.bytes) → W'.ownsRow H TR 3 s rs.length (acCells rs) → W'.ownsRow H TI 1 e rs.length (endsC rs) → Below H W W' → (∀ k, k < W.heap.size → b.ownBlock ≠ some k → W'.heap[k]? = W.heap[k]?) →
      wpList Try.prog ops Q rest (a.put o.dst b') W') : wpList Try.prog ops Q (o :: rest) a W := by
  have hle := h.le
  have hn : n ≤ 95 := by have := hr.length; have := hB.1; have := hr.2.1; omega
  refine wpList_append_bytes hgd sl x ho H b (flat rs) hs h.b ad n c r.bytes hx hB (by omega) h.ext.2 fun b' W' h1 h2 _ => hh b' W' ?_ h1 ?_ ?_ ?_ ?_
  · exact h.ext.grown h2 (fun k hk => (World.ownsRow.lt h.b k hk).1)
  · exact h.s.kept h2 (ownsRow_apart h.s h.b (by decide))
  · exact h.e.kept h2 (ownsRow_apart h.e h.b (by decide))
  · exact (Below.refl _ _).grown h2 h.ext.2 (fun k hk => (World.ownsRow.lt h.b k hk).1)
  · exact fun k hk hne => h2.block k hk (fun e => hne e.symm)
/-- append of a row of one element onto a row of our own, the new element in a block that has just been made -/
theorem append_one {W : World} {H n size bytes : Nat} {v : Value} {xs : List Value} (t : TypeId) (e : TypeId) (ht : Try.prog.underlying t = some (.slice e)) (z : Value) (hinfo : (Try.prog.info? e).map (fun i => (i.zero, i.size, i.bytes)) = some (some z, size, bytes)) (hzs : z.cells.size = size) (hsz : 0 < size)
    (h : W.ownsRow H e size v n xs) (hH : H ≤ W.heap.size) (cs : List Value) (hcl : cs.length = size) (h1 : ∀ u ∈ cs, u.oneCell' = true) (hn : n ≤ 100) (hb : bytes ≤ 100)
    {ops : Array Oper} {rest : List Oper} {o : Oper} {a : Act} {Q : Exit → Act → World → Prop} (hgd : o.guard = none) (sl x : Operand)
    (ho : o.op = .call { callee := .builtin .append, args := #[sl, x], argTypes := #[t, t] }) (hs : a.eval sl = v) (hx : a.eval x = .slice (some ⟨W.heap.size, 0, none⟩) 1 1)
    (hh : ∀ v' W', W'.ownsRow H e size v' (n + 1) (xs ++ cs) → (W.alloc (.cells cs.toArray e)).grownBy W' v.ownBlock → wpList Try.prog ops Q rest (a.put o.dst v') W') : wpList Try.prog ops Q (o :: rest) a (W.alloc (.cells cs.toArray e)) := by
  obtain ⟨i, hi, hz0, hz1, hz2⟩ := info_parts hinfo
  refine wpList_append_own _ hgd sl x t ho H e i z size bytes ht hi hz0 hz1 hz2 hzs hsz v n xs hs (h.alloc _) ⟨W.heap.size, 0, none⟩ 1 1 cs hx (by omega) (cells_new W cs e) h1 (by unfold maxLen; omega) ?_ (by simp; omega) fun v' W' g1 g2 _ => hh v' W' g1 g2
  have : (n + 1) * bytes ≤ 101 * 100 := Nat.mul_le_mul (by omega) hb
  omega
/-- a record that came in, in a row -/
structure Rc where
  k : Int
  q : Nat
  a : Option Addr
  m : Nat
  c : Nat
  ys : List UInt8
instance : Inhabited Rc := ⟨⟨0, 0, none, 0, 0, []⟩⟩
def Rc.In (w : World) (b o : Nat) (r : Rc) : Prop :=
  w.cell? ⟨b, o, none⟩ = some (.int .i64 r.k) ∧ w.cell? ⟨b, o + 1, none⟩ = some (.int .u64 (r.q : Int)) ∧ w.cell? ⟨b, o + 2, none⟩ = some (.slice r.a r.m r.c) ∧ r.q < 18446744073709551616 ∧ Bs w r.a r.m r.c r.ys
def Recs (w : World) (a : Option Addr) (len cap : Nat) (ls : List Rc) : Prop :=
  ls.length = len ∧ len ≤ cap ∧ cap ≤ maxLen ∧ (len = 0 ∨ ∃ b off, a = some ⟨b, off, none⟩ ∧ b < w.heap.size ∧ ∀ i (h : i < ls.length), ls[i].In w b (off + i * 3))
set_option maxRecDepth 100000 in
theorem Can.record {w : World} {cs : List Value} (h : Can Try.prog w 27 cs) :
    ∃ (k : Int) (n : Nat) (a : Option Addr) (len cap : Nat) (xs : List UInt8), cs = [.int .i64 k, .int .u64 (n : Int), .slice a len cap] ∧ n < 18446744073709551616 ∧ Bs w a len cap xs := by
  obtain ⟨hs, hf⟩ := h.struct Try.underlying27
  rw [show Try.prog.cellsOf 27 = 3 by kernel_rfl] at hs
  obtain ⟨x0, x1, x2, rfl⟩ := three_of hs
  have q0 : Can Try.prog w 3 (([x0, x1, x2].drop 0).take (Try.prog.cellsOf 3)) := hf 0 _ rfl
  have q1 : Can Try.prog w 23 (([x0, x1, x2].drop 1).take (Try.prog.cellsOf 23)) := hf 1 _ rfl
  have q2 : Can Try.prog w 25 (([x0, x1, x2].drop 2).take (Try.prog.cellsOf 25)) := hf 2 _ rfl
  rw [show Try.prog.cellsOf 3 = 1 by kernel_rfl] at q0
  rw [show Try.prog.cellsOf 23 = 1 by kernel_rfl] at q1
  rw [show Try.prog.cellsOf 25 = 1 by kernel_rfl] at q2
  obtain ⟨k, hk, _⟩ := q0.int Try.underlying3
  obtain ⟨t, ht, htw⟩ := q1.int Try.underlying23
  obtain ⟨a, len, cap, xs, h2, hB⟩ := q2.bytes Try.underlying25 Try.underlying5 (by kernel_rfl)
  have hb : 0 ≤ t ∧ t < 18446744073709551616 := by simp [Lit.wf, IntKind.min, IntKind.max, IntKind.bits, IntKind.signed] at htw; omega
  obtain ⟨m, rfl⟩ : ∃ m : Nat, t = (m : Int) := ⟨t.toNat, by omega⟩
  simp at hk ht h2
  subst hk ht h2
  exact ⟨k, m, a, len, cap, xs, rfl, by omega, hB⟩
theorem Arg.recs {w : World} {v : Value} (h : Arg Try.prog w 37 v) :
    ∃ (a : Option Addr) (len cap : Nat) (ls : List Rc), v = .slice a len cap ∧ Recs w a len cap ls := by
  obtain ⟨a, len, cap, rfl, h2⟩ := h.sliceCan Try.underlying37
  have hs : Try.prog.cellsOf 27 = 3 := by kernel_rfl
  obtain ⟨a', len', cap', h3, h5, h6, h4⟩ := h2.elems Try.underlying37 (by omega)
  cases h3
  refine ⟨a, len, cap, ?_⟩
  rcases h4 with rfl | ⟨b, off, rfl, hb, hc⟩
  · exact ⟨[], rfl, rfl, h5, h6, .inl rfl⟩
  · have hx : ∀ i, i < len → ∃ p : Rc, p.In w b (off + i * 3) := fun i hi => by
      obtain ⟨cs, hr, hl, hcc⟩ := hc i hi
      rw [hs] at hl hcc
      obtain ⟨k, n, a, len, cap, xs, rfl, hn, hB⟩ := hr.record
      exact ⟨⟨k, n, a, len, cap, xs⟩, hcc 0 (by simp), hcc 1 (by simp), hcc 2 (by simp), hn, hB⟩
    obtain ⟨f, hf⟩ := Deep.choose_lt hx
    exact ⟨(List.range len).map f, rfl, by simp, h5, h6, .inr ⟨b, off, rfl, hb, fun i hi => by simp at hi; simpa using hf i hi⟩⟩
theorem Recs.at {w : World} {a : Option Addr} {len cap : Nat} {ls : List Rc} (h : Recs w a len cap ls) :
    ∃ b off, Hid (0 < len → a = some ⟨b, off, none⟩ ∧ b < w.heap.size ∧ ∀ i (h : i < ls.length), ls[i].In w b (off + i * 3)) := by
  rcases h.2.2.2 with h | ⟨b, off, h1, h2, h3⟩
  · exact ⟨0, 0, Lib.hid fun h' => by omega⟩
  · exact ⟨b, off, Lib.hid fun _ => ⟨h1, h2, h3⟩⟩
end Go.Proofs.Ytmjlndfkddacbaa
