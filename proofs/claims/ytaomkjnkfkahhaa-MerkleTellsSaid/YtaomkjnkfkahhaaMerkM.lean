/- What the statements on merkle ask, in plain Lean. -/
import Derived.Test.YtaomkjnkfkahhaaMerkN
namespace Go.Proofs.Ytaomkjnkfkahhaa
open Go.RowKit

theorem mcheck_nat (rt leaf : List UInt8) (i n : Nat) (ps : List (List UInt8)) (h : i < n) : mcheck rt leaf i n ps = ((climb (sha (0 :: leaf)) i n ps).2 && decide ((climb (sha (0 :: leaf)) i n ps).1 = rt)) := by
  unfold mcheck; rw [decide_eq_true (by omega)]; rfl
theorem mcheckG_nat (old rt : List UInt8) (m n : Nat) (ps : List (List UInt8)) (h1 : 1 ≤ m) (h : m ≤ n) : mcheckG old rt m n ps = ((regrown old m n ps true).2.2 && (decide ((regrown old m n ps true).1 = old) && decide ((regrown old m n ps true).2.1 = rt))) := by
  unfold mcheckG; rw [decide_eq_true (by omega)]; rfl
/-- each leaf is checked by its path -/
theorem mcheck_path (ls : List (List UInt8)) (i n : Nat) (hn : ls.length = n) (h : i < n) : mcheck (mroot ls) (ls.getD i []) i n (mpath ls i) = true := by
  subst hn
  rw [mcheck_nat _ _ _ _ _ h, climb_path ls i h]; simp
/-- each beginning is checked by its proof -/
theorem mcheckG_grown (ls : List (List UInt8)) (m n : Nat) (hn : ls.length = n) (h1 : 1 ≤ m) (h : m ≤ n) : mcheckG (mroot (ls.take m)) (mroot ls) m n (mgrown ls m true) = true := by
  subst hn
  rw [mcheckG_nat _ _ _ _ _ h1 h, regrown_grown ls m true _ h1 h (fun _ => rfl)]; simp
/-- a path of another length is not -/
theorem mcheck_len (rt leaf : List UInt8) (i n : Nat) (ps : List (List UInt8)) (h : i < n) (hl : ps.length ≠ dep i n) : mcheck rt leaf i n ps = false := by
  rw [mcheck_nat _ _ _ _ _ h, climb_ok, decide_eq_false hl]; rfl
theorem mcheckG_len (old rt : List UInt8) (m n : Nat) (ps : List (List UInt8)) (h1 : 1 ≤ m) (h : m ≤ n) (hl : ps.length ≠ gdep m n true) : mcheckG old rt m n ps = false := by
  rw [mcheckG_nat _ _ _ _ _ h1 h, regrown_ok _ _ _ _ _ h1 h, decide_eq_false hl]; rfl
theorem mgrown_shorts (ls : List (List UInt8)) (m : Nat) (b : Bool) : ∀ p ∈ mgrown ls m b, p.length ≤ 1000 := by
  rw [mgrown]
  split
  · split
    · intro p hp; cases hp
    · intro p hp; rw [List.mem_singleton.1 hp, mroot_length]; omega
  · split
    · intro p hp; cases hp
    · rename_i h
      have := mpart_spec (n := ls.length) (by omega)
      split
      · intro p hp
        rcases List.mem_append.1 hp with hp | hp
        · exact mgrown_shorts _ _ _ p hp
        · rw [List.mem_singleton.1 hp, mroot_length]; omega
      · intro p hp
        rcases List.mem_append.1 hp with hp | hp
        · exact mgrown_shorts _ _ _ p hp
        · rw [List.mem_singleton.1 hp, mroot_length]; omega
termination_by ls.length
decreasing_by
  · simp; omega
  · simp; omega
theorem checkG_eq (a1 a2 : Option Addr) (l1 l2 c1 c2 : Nat) (old rt : List UInt8) (m n : Int) (ap : Option Addr) (lp cp : Nat) (ps : List (List UInt8)) (r : Bool) (w : World) (h1 : Bs w a1 l1 c1 old) (h2 : Bs w a2 l2 c2 rt) (hP : LL w ap lp cp ps) (hx : ∀ p ∈ ps, p.length ≤ 1000) (hl1 : l1 ≤ 1000) (hlp : lp ≤ 65) (hn : n ≤ 1000) (hr : mcheckG old rt m n ps = r) :
    Calls Try.prog 23 #[.slice a1 l1 c1, .slice a2 l2 c2, .int .i64 m, .int .i64 n, .slice ap lp cp] w fun e w' => e = .returned (.bool r) ∧ Below w.heap.size w w' := by
  subst hr
  exact checkG_any a1 a2 l1 l2 c1 c2 old rt m n ap lp cp ps w h1 h2 hP hx hl1 hlp hn
theorem rcheck_eq (a1 a2 : Option Addr) (l1 l2 c1 c2 : Nat) (rt leaf : List UInt8) (i n : Int) (ap : Option Addr) (lp cp : Nat) (ps : List (List UInt8)) (r : Bool) (w : World) (h1 : Bs w a1 l1 c1 rt) (h2 : Bs w a2 l2 c2 leaf) (hP : LL w ap lp cp ps) (hx : ∀ p ∈ ps, p.length ≤ 1000) (hl2 : l2 ≤ 1000) (hlp : lp ≤ 64) (hn : n ≤ 1000) (hr : mcheck rt leaf i n ps = r) :
    Calls Try.prog 17 #[.slice a1 l1 c1, .slice a2 l2 c2, .int .i64 i, .int .i64 n, .slice ap lp cp] w fun e w' => e = .returned (.bool r) ∧ Below w.heap.size w w' := by
  subst hr
  exact rcheck_any a1 a2 l1 l2 c1 c2 rt leaf i n ap lp cp ps w h1 h2 hP hx hl2 hlp hn
theorem rcheckG_eq (a1 a2 : Option Addr) (l1 l2 c1 c2 : Nat) (old rt : List UInt8) (m n : Int) (ap : Option Addr) (lp cp : Nat) (ps : List (List UInt8)) (r : Bool) (w : World) (h1 : Bs w a1 l1 c1 old) (h2 : Bs w a2 l2 c2 rt) (hP : LL w ap lp cp ps) (hx : ∀ p ∈ ps, p.length ≤ 1000) (hl1 : l1 ≤ 1000) (hlp : lp ≤ 65) (hn : n ≤ 1000) (hr : mcheckG old rt m n ps = r) :
    Calls Try.prog 25 #[.slice a1 l1 c1, .slice a2 l2 c2, .int .i64 m, .int .i64 n, .slice ap lp cp] w fun e w' => e = .returned (.bool r) ∧ Below w.heap.size w w' := by
  subst hr
  exact rcheckG_any a1 a2 l1 l2 c1 c2 old rt m n ap lp cp ps w h1 h2 hP hx hl1 hlp hn
/-- a number brought into bounds, as a natural one -/
theorem within_nat (x : Int) (lo hi : Nat) (h : lo ≤ hi) : ∃ k : Nat, within x lo hi = (k : Int) ∧ lo ≤ k ∧ k ≤ hi := by
  have := within_bd x lo hi (by omega)
  obtain ⟨k, hk⟩ := Int.eq_ofNat_of_zero_le (show 0 ≤ within x lo hi by omega)
  exact ⟨k, hk, by omega, by omega⟩
/-- one of the rows -/
theorem LL.row {w : World} {a : Option Addr} {n cap : Nat} {ls : List (List UInt8)} (h : LL w a n cap ls) {k : Nat} (hk : k < n) : ∃ b off a' m c, a = some ⟨b, off, none⟩ ∧ CellIs w b (off + k) (.slice a' m c) ∧ Bs w a' m c (ls.getD k []) := by
  obtain ⟨b, off, h1, h2, h3⟩ := h.at (by omega)
  obtain ⟨a', m, c, h4, h5⟩ := h3 k hk
  exact ⟨b, off, a', m, c, h1, ⟨h2, h4⟩, h5⟩
theorem getD_short {ls : List (List UInt8)} {B : Nat} (h : ∀ x ∈ ls, x.length ≤ B) (k : Nat) : (ls.getD k []).length ≤ B := by
  by_cases hk : k < ls.length
  · rw [List.getD_eq_getElem?_getD, List.getElem?_eq_getElem hk]; exact h _ (List.getElem_mem _)
  · rw [List.getD_eq_getElem?_getD, List.getElem?_eq_none (by omega)]; simp
theorem take_short {ls : List (List UInt8)} {B : Nat} (h : ∀ x ∈ ls, x.length ≤ B) (k : Nat) : ∀ x ∈ ls.take k, x.length ≤ B := fun x hx => h x (List.mem_of_mem_take hx)
theorem drop_short {ls : List (List UInt8)} {B : Nat} (h : ∀ x ∈ ls, x.length ≤ B) (k : Nat) : ∀ x ∈ ls.drop k, x.length ≤ B := fun x hx => h x (List.mem_of_mem_drop hx)
end Go.Proofs.Ytaomkjnkfkahhaa
