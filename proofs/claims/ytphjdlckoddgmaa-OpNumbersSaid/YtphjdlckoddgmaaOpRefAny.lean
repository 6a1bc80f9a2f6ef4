/- The contract of permafrostref15.Encode, whatever it is handed. -/
import Derived.Test.YtphjdlckoddgmaaOpRef
namespace Go.Proofs.Ytphjdlckoddgmaa
open Go.RowKit

def rightF (p t d : Nat) (fd at_ n sn : Int) : Nat :=
  if 200 < p ∨ 200 < t ∨ 600 < d then 3 else if shortI fd = false ∨ shortI at_ = false ∨ shortI n = false ∨ shortI sn = false then 1 else 0
theorem rightF_asked (a : Ask) (ps ts ds : List UInt8) (fd at_ n sn : Int) : rightN a ps.length ts.length ds.length fd at_ n sn =
    rightF (if a.path = true then ps else []).length (if a.to = true then ts else []).length (if a.data = true then ds else []).length (if a.fd = true then fd else 0) (if a.part = true then at_ else 0) (if a.part = true then n else 0) (if a.snap = true then sn else 0) := by
  obtain ⟨p, t, f, q, u, s, d⟩ := a
  have h0 : shortI 0 = true := rfl
  unfold rightN rightF
  cases p <;> cases t <;> cases f <;> cases q <;> cases s <;> cases d <;> simp [h0, or_assoc]
theorem strOf_if (c : Bool) (xs : List UInt8) : (if c = true then strOf xs else (⟨#[]⟩ : ByteArray)) = strOf (if c = true then xs else []) := by cases c <;> rfl

theorem renc_any (k : Int) (ps ts : List UInt8) (fd at_ n : Int) (til : Nat) (sn : Int) (da : Option Addr) (dl dc : Nat) (ds : List UInt8) (w : World) (hB : Bs w da dl dc ds) :
    Calls Try.prog 12 #[.agg (ovCells k (strOf ps) (strOf ts) fd at_ n til sn da dl dc)] w fun e w' => ∃ v, e = .returned (.tuple #[v, .int .i64 ((opEnc ⟨k, ps, ts, fd, at_, n, til, sn, ds⟩).2 : Nat)]) ∧
      Own w' w.heap.size v (opEnc ⟨k, ps, ts, fd, at_, n, til, sn, ds⟩).1 ∧ Below w.heap.size w w' := by
  have no : ∀ (r : Nat) (h : opEnc ⟨k, ps, ts, fd, at_, n, til, sn, ds⟩ = ([], r)), Calls Try.prog 12 #[.agg (ovCells k (strOf ps) (strOf ts) fd at_ n til sn da dl dc)] w (fun e w' => e = .returned (.tuple #[.slice none 0 0, .int .i64 (r : Int)]) ∧ Below w.heap.size w w') →
      Calls Try.prog 12 #[.agg (ovCells k (strOf ps) (strOf ts) fd at_ n til sn da dl dc)] w (fun e w' => ∃ v, e = .returned (.tuple #[v, .int .i64 ((opEnc ⟨k, ps, ts, fd, at_, n, til, sn, ds⟩).2 : Nat)]) ∧ Own w' w.heap.size v (opEnc ⟨k, ps, ts, fd, at_, n, til, sn, ds⟩).1 ∧ Below w.heap.size w w') := by
    intro r h hc
    rw [h]
    refine hc.mono ?_
    rintro e w' ⟨rfl, hb⟩
    exact ⟨_, rfl, Own.nil _ _, hb⟩
  cases ha : asksOf k with
  | none =>
    have hk : k < 1 ∨ 17 < k := by
      rcases (show (k < 1 ∨ 17 < k) ∨ ¬ (k < 1 ∨ 17 < k) by omega) with h | h
      · exact h
      · rcases kinds h with rfl | rfl | rfl | rfl | rfl | rfl | rfl | rfl | rfl | rfl | rfl | rfl | rfl | rfl | rfl | rfl | rfl <;> cases ha
    exact no 30 (by unfold opEnc; simp only; rw [ha]) (renc_kind k _ _ _ _ _ _ _ _ _ _ hk w)
  | some a =>
    have hdl := hB.1
    have hr := asksOf_range ha
    have hE : opEnc ⟨k, ps, ts, fd, at_, n, til, sn, ds⟩ = if rightN a ps.length ts.length ds.length fd at_ n sn = 0 then ((⟨k, ps, ts, fd, at_, n, til, sn, ds⟩ : Ov).bytes a, 0) else ([], rightN a ps.length ts.length ds.length fd at_ n sn) := by
      unfold opEnc
      simp only
      rw [ha]
      rfl
    have hby := Ov.bytes_asked ⟨k, ps, ts, fd, at_, n, til, sn, ds⟩ a
    unfold Ov.asked at hby
    simp only at hby
    rw [← hby, rightF_asked] at hE
    clear hby
    have HAs := fun W => asked_any k (strOf ps) (strOf ts) fd at_ n til sn da dl dc a ha W
    simp only [strOf_if] at HAs
    have hB' : Bs w (if a.data = true then da else none) (if a.data = true then dl else 0) (if a.data = true then dc else 0) (if a.data = true then ds else []) := by
      cases a.data
      · exact Bs.nil w
      · exact hB
    have hdl' := hB'.1
    generalize (if a.path = true then ps else []) = ps' at *
    generalize (if a.to = true then ts else []) = ts' at *
    generalize (if a.data = true then ds else []) = ds' at *
    generalize (if a.data = true then da else none) = da' at *
    generalize (if a.data = true then dl else 0) = dl' at *
    generalize (if a.data = true then dc else 0) = dc' at *
    generalize (if a.fd = true then fd else 0) = fd' at *
    generalize (if a.part = true then at_ else 0) = at' at *
    generalize (if a.part = true then n else 0) = n' at *
    generalize (if a.snap = true then sn else 0) = sn' at *
    generalize (if a.til = true then til else 0) = til' at *
    have HA := Lib.hid HAs
    have hW : ∀ r, rightF ps'.length ts'.length ds'.length fd' at' n' sn' = r → r ≠ 0 → opEnc ⟨k, ps, ts, fd, at_, n, til, sn, ds⟩ = ([], r) := by
      intro r h h0
      rw [hE, h, if_neg h0]
    by_cases b1 : 200 < ps'.length
    · exact no 3 (hW 3 (by unfold rightF; rw [if_pos (.inl b1)]) (by decide)) (renc_wrong0 k ps' ts' fd' at' n' sn' til' da' dl' dc' _ _ _ _ _ _ _ _ _ _ hr.1 hr.2 w HA (by show (200 : Int) < (ps'.length : Nat); omega))
    have F1 : ((strOf ps').size : Int) ≤ 200 := by show ((ps'.length : Nat) : Int) ≤ 200; omega
    by_cases b2 : 200 < ts'.length
    · exact no 3 (hW 3 (by unfold rightF; rw [if_pos (.inr (.inl b2))]) (by decide)) (renc_wrong1 k ps' ts' fd' at' n' sn' til' da' dl' dc' _ _ _ _ _ _ _ _ _ _ hr.1 hr.2 w HA F1 (by show (200 : Int) < (ts'.length : Nat); omega))
    have F2 : ((strOf ts').size : Int) ≤ 200 := by show ((ts'.length : Nat) : Int) ≤ 200; omega
    by_cases b3 : 600 < ds'.length
    · exact no 3 (hW 3 (by unfold rightF; rw [if_pos (.inr (.inr b3))]) (by decide)) (renc_wrong2 k ps' ts' fd' at' n' sn' til' da' dl' dc' _ _ _ _ _ _ _ _ _ _ hr.1 hr.2 w HA F1 F2 (by omega))
    have F3 : (dl' : Int) ≤ 600 := by omega
    have hb : ¬ (200 < ps'.length ∨ 200 < ts'.length ∨ 600 < ds'.length) := by rintro (h | h | h) <;> contradiction
    cases G0 : shortI fd' with
    | false =>
      exact no 1 (hW 1 (by unfold rightF; rw [if_neg hb, if_pos (.inl G0)]) (by decide)) (renc_wrong3 k ps' ts' fd' at' n' sn' til' da' dl' dc' _ _ _ _ _ _ _ _ _ _ hr.1 hr.2 w HA F1 F2 F3 G0)
    | true =>
    cases G1 : shortI at' with
    | false =>
      exact no 1 (hW 1 (by unfold rightF; rw [if_neg hb, if_pos (.inr (.inl G1))]) (by decide)) (renc_wrong4 k ps' ts' fd' at' n' sn' til' da' dl' dc' _ _ _ _ _ _ _ _ _ _ hr.1 hr.2 w HA F1 F2 F3 G0 G1)
    | true =>
    cases G2 : shortI n' with
    | false =>
      exact no 1 (hW 1 (by unfold rightF; rw [if_neg hb, if_pos (.inr (.inr (.inl G2)))]) (by decide)) (renc_wrong5 k ps' ts' fd' at' n' sn' til' da' dl' dc' _ _ _ _ _ _ _ _ _ _ hr.1 hr.2 w HA F1 F2 F3 G0 G1 G2)
    | true =>
    cases G3 : shortI sn' with
    | false =>
      exact no 1 (hW 1 (by unfold rightF; rw [if_neg hb, if_pos (.inr (.inr (.inr G3)))]) (by decide)) (renc_wrong6 k ps' ts' fd' at' n' sn' til' da' dl' dc' _ _ _ _ _ _ _ _ _ _ hr.1 hr.2 w HA F1 F2 F3 G0 G1 G2 G3)
    | true =>
      rw [show rightF ps'.length ts'.length ds'.length fd' at' n' sn' = 0 by unfold rightF; rw [if_neg hb, G0, G1, G2, G3, if_neg (by simp)], if_pos rfl] at hE
      obtain ⟨m0, rfl, q0⟩ := shortI_nat G0
      obtain ⟨m1, rfl, q1⟩ := shortI_nat G1
      obtain ⟨m2, rfl, q2⟩ := shortI_nat G2
      obtain ⟨m3, rfl, q3⟩ := shortI_nat G3
      obtain ⟨K, rfl⟩ : ∃ K : Nat, k = (K : Int) := ⟨k.toNat, by omega⟩
      rw [hE]
      obtain ⟨p, t, f, q, u, s, d⟩ := a
      exact renc_ok K p t f q u s d ps' ts' m0 m1 m2 m3 til' da' dl' dc' ds' _ _ _ _ _ _ _ _ _ _ ha w hB' HA (by omega) (by omega) (by omega) q0 q1 q2 q3
end Go.Proofs.Ytphjdlckoddgmaa
