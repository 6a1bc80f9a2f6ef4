/- An operation that came in; how long its bytes are; the contract of permafrostkeep.Short. -/
import Derived.Test.YtphjdlckoddgmaaOpTame
import Derived.Test.YtphjdlckoddgmaaArg
namespace Go.Proofs.Ytphjdlckoddgmaa
open Go.RowKit

theorem nine_of {l : List Value} (h : l.length = 9) : ∃ x0 x1 x2 x3 x4 x5 x6 x7 x8, l = [x0, x1, x2, x3, x4, x5, x6, x7, x8] := by
  match l, h with
  | [x0, x1, x2, x3, x4, x5, x6, x7, x8], _ => exact ⟨x0, x1, x2, x3, x4, x5, x6, x7, x8, rfl⟩
theorem strOf_of (s : ByteArray) : ∃ xs, s = strOf xs := ⟨s.data.toList, by unfold strOf; simp⟩
set_option maxRecDepth 100000 in
theorem Arg.op {w : World} {v : Value} (h : Arg Try.prog w 25 v) :
    ∃ (k : Int) (ps ts : List UInt8) (fd at_ n : Int) (til : Nat) (sn : Int) (a : Option Addr) (len cap : Nat) (xs : List UInt8), v = .agg (ovCells k (strOf ps) (strOf ts) fd at_ n til sn a len cap) ∧ til < 18446744073709551616 ∧ Bs w a len cap xs := by
  obtain ⟨cs, rfl, hs, hf⟩ := h.struct Try.underlying25
  rw [show Try.prog.cellsOf 25 = 9 by kernel_rfl] at hs
  obtain ⟨l⟩ := cs
  obtain ⟨x0, x1, x2, x3, x4, x5, x6, x7, x8, rfl⟩ := nine_of (l := l) (by simpa using hs)
  have ci : Try.prog.cellsOf 3 = 1 := by kernel_rfl
  have cs : Try.prog.cellsOf 9 = 1 := by kernel_rfl
  have q0 : Can Try.prog w 3 (([x0, x1, x2, x3, x4, x5, x6, x7, x8].drop 0).take (Try.prog.cellsOf 3)) := hf 0 _ rfl
  have q1 : Can Try.prog w 9 (([x0, x1, x2, x3, x4, x5, x6, x7, x8].drop 1).take (Try.prog.cellsOf 9)) := hf 1 _ rfl
  have q2 : Can Try.prog w 9 (([x0, x1, x2, x3, x4, x5, x6, x7, x8].drop 2).take (Try.prog.cellsOf 9)) := hf 2 _ rfl
  have q3 : Can Try.prog w 3 (([x0, x1, x2, x3, x4, x5, x6, x7, x8].drop 3).take (Try.prog.cellsOf 3)) := hf 3 _ rfl
  have q4 : Can Try.prog w 3 (([x0, x1, x2, x3, x4, x5, x6, x7, x8].drop 4).take (Try.prog.cellsOf 3)) := hf 4 _ rfl
  have q5 : Can Try.prog w 3 (([x0, x1, x2, x3, x4, x5, x6, x7, x8].drop 5).take (Try.prog.cellsOf 3)) := hf 5 _ rfl
  have q6 : Can Try.prog w 22 (([x0, x1, x2, x3, x4, x5, x6, x7, x8].drop 6).take (Try.prog.cellsOf 22)) := hf 6 _ rfl
  have q7 : Can Try.prog w 3 (([x0, x1, x2, x3, x4, x5, x6, x7, x8].drop 7).take (Try.prog.cellsOf 3)) := hf 7 _ rfl
  have q8 : Can Try.prog w 23 (([x0, x1, x2, x3, x4, x5, x6, x7, x8].drop 8).take (Try.prog.cellsOf 23)) := hf 8 _ rfl
  rw [ci] at q0 q3 q4 q5 q7
  rw [cs] at q1 q2
  rw [show Try.prog.cellsOf 22 = 1 by kernel_rfl] at q6
  rw [show Try.prog.cellsOf 23 = 1 by kernel_rfl] at q8
  obtain ⟨k, h0, _⟩ := q0.int Try.underlying3
  obtain ⟨s1, h1, _⟩ := q1.string Try.underlying9
  obtain ⟨s2, h2, _⟩ := q2.string Try.underlying9
  obtain ⟨n3, h3, _⟩ := q3.int Try.underlying3
  obtain ⟨n4, h4, _⟩ := q4.int Try.underlying3
  obtain ⟨n5, h5, _⟩ := q5.int Try.underlying3
  obtain ⟨t, h6, htw⟩ := q6.int Try.underlying22
  obtain ⟨n7, h7, _⟩ := q7.int Try.underlying3
  obtain ⟨a, len, cap, xs, h8, hB⟩ := q8.bytes Try.underlying23 Try.underlying5 (by kernel_rfl)
  have hb : 0 ≤ t ∧ t < 18446744073709551616 := by simp [Lit.wf, IntKind.min, IntKind.max, IntKind.bits, IntKind.signed] at htw; omega
  obtain ⟨m, rfl⟩ : ∃ m : Nat, t = (m : Int) := ⟨t.toNat, by omega⟩
  obtain ⟨p1, rfl⟩ := strOf_of s1
  obtain ⟨p2, rfl⟩ := strOf_of s2
  simp at h0 h1 h2 h3 h4 h5 h6 h7 h8
  subst h0 h1 h2 h3 h4 h5 h6 h7 h8
  exact ⟨k, p1, p2, n3, n4, n5, m, n7, a, len, cap, xs, rfl, by omega, hB⟩

theorem lenBytes_len (ys : List UInt8) (n : Nat) (h : ys.length ≤ n) : (lenBytes ys).length ≤ n + 2 := by simp [lenBytes, be_length]; omega
theorem opt_len (c : Bool) (L : List UInt8) (n : Nat) (h : c = true → L.length ≤ n) : (if c = true then L else []).length ≤ n := by
  cases c
  · simp
  · exact h rfl
theorem Ov.bytes_len (o : Ov) (a : Ask) (h : o.right a = 0) : (o.bytes a).length ≤ 1100 ∧ 0 < (o.bytes a).length := by
  have hf := opFacts (p := a.path) (t := a.to) (f := a.fd) (q := a.part) (u := a.til) (s := a.snap) (d := a.data) h
  have l1 := opt_len a.path (lenBytes o.path) 202 (fun e => lenBytes_len _ _ (hf.1 e))
  have l2 := opt_len a.to (lenBytes o.to) 202 (fun e => lenBytes_len _ _ (hf.2.1 e))
  have l3 := opt_len a.fd (be o.fd.toNat 2) 2 (fun _ => by simp [be_length])
  have l4 := opt_len a.part (be o.at_.toNat 2) 2 (fun _ => by simp [be_length])
  have l5 := opt_len a.part (be o.n.toNat 2) 2 (fun _ => by simp [be_length])
  have l6 := opt_len a.til (be o.til 8) 8 (fun _ => by simp [be_length])
  have l7 := opt_len a.snap (be o.snap.toNat 2) 2 (fun _ => by simp [be_length])
  have l8 := opt_len a.data (lenBytes o.dat) 602 (fun e => lenBytes_len _ _ (hf.2.2.2.2.2 e))
  unfold Ov.bytes Ov.tail
  simp only [List.length_append, be_length]
  omega
theorem opEnc_len (o : Ov) : (opEnc o).1.length ≤ 1100 := by
  unfold opEnc
  cases h : asksOf o.kind with
  | none => simp
  | some a =>
    simp only
    split
    · rename_i hr; exact (o.bytes_len a hr).1
    · simp

set_option maxHeartbeats 4000000 in
set_option maxRecDepth 100000 in
theorem short_any (k : Int) (ps ts : List UInt8) (fd at_ n : Int) (til : Nat) (sn : Int) (da : Option Addr) (dl dc : Nat) (hcap : dl ≤ dc) (w : World) :
    Calls Try.prog 9 #[.agg (ovCells k (strOf ps) (strOf ts) fd at_ n til sn da dl dc)] w fun e w' => e = .returned (.agg (ovCells k (strOf (ps.take 210)) (strOf (ts.take 210)) fd at_ n til sn da (min dl 610) dc)) ∧ Below w.heap.size w w' := by
  have HC := Lib.hid (fun w => cut_any 610 da dl dc w hcap (by decide))
  unfold ovCells
  go_enter Try.func9, Try.ntmps9
  go_wp2_with fail
  refine (head_any ps 210 (by decide) _).mono ?_
  rintro e w1 ⟨rfl, rfl⟩
  go_wp2_with fail
  refine (head_any ts 210 (by decide) _).mono ?_
  rintro e w1 ⟨rfl, rfl⟩
  go_wp2_with fail
  refine (HC.out _).mono ?_
  rintro e w1 ⟨rfl, rfl⟩
  generalize hm : min dl 610 = m
  have HM := Lib.hid hm
  clear hm
  go_upto_region 4 with fail
  repeat go_step
  refine bodyPost_ret ?_ rfl ⟨rfl, ?_⟩
  · simp [results, Try.results9, go_sem]
    exact HM.out.symm
  · exact (((Ext.refl w).alloc _).alloc _).1
end Go.Proofs.Ytphjdlckoddgmaa
