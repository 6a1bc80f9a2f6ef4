/- Contracts of package bmap and of the document's answer: where a file's blocks stand. -/
import Derived.Test.YtklckjmlifddjaaProg
import Derived.Test.YtklckjmlifddjaaBase
namespace Go.Proofs.Ytklckjmlifddjaa
open Go.RowKit

def wL (k : Int) : Int := if k < 0 ∨ 276 ≤ k then 0 else if k < 4 then 0 else if k < 20 then 1 else 2
def wA (k : Int) : Int := if k < 0 ∨ 276 ≤ k then 0 else if k < 4 then k else if k < 20 then k - 4 else (k - 20) / 16
def wB (k : Int) : Int := if k < 20 ∨ 276 ≤ k then 0 else (k - 20) % 16
def wE (k : Int) : Int := if k < 0 ∨ 276 ≤ k then 1 else 0
def wayV (k : Int) : Value := .tuple #[.int .i64 (wL k), .int .i64 (wA k), .int .i64 (wB k), .int .i64 (wE k)]

theorem way_1 (k : Int) (h : k < 0) : wL k = 0 ∧ wA k = 0 ∧ wB k = 0 ∧ wE k = 1 := by unfold wL wA wB wE; omega
theorem way_2 (k : Int) (h : 276 ≤ k) : wL k = 0 ∧ wA k = 0 ∧ wB k = 0 ∧ wE k = 1 := by unfold wL wA wB wE; omega
theorem way_3 (k : Int) (h : 0 ≤ k) (h' : k < 4) : wL k = 0 ∧ wA k = k ∧ wB k = 0 ∧ wE k = 0 := by unfold wL wA wB wE; omega
theorem way_4 (k : Int) (h : 4 ≤ k) (h' : k < 20) : wL k = 1 ∧ wA k = k - 4 ∧ wB k = 0 ∧ wE k = 0 := by unfold wL wA wB wE; omega
theorem way_5 (k : Int) (h : 20 ≤ k) (h' : k < 276) : wL k = 2 ∧ wA k = (k - 20) / 16 ∧ wB k = (k - 20) % 16 ∧ wE k = 0 := by unfold wL wA wB wE; omega
theorem wayV_of {k a b c d : Int} (h : wL k = a ∧ wA k = b ∧ wB k = c ∧ wE k = d) : wayV k = .tuple #[.int .i64 a, .int .i64 b, .int .i64 c, .int .i64 d] := by
  obtain ⟨h1, h2, h3, h4⟩ := h
  rw [wayV, h1, h2, h3, h4]

theorem way_any (k : Int) (w : World) :
    Calls Try.prog 13 #[.int .i64 k] w fun e w' => e = .returned (wayV k) ∧ w = w' := by
  by_cases h1 : k < 0
  · have H := Lib.hid (wayV_of (way_1 k h1))
    go_enter Try.func13, Try.ntmps13
    go_wp2
    exact bodyPost_ret (v := .tuple #[.int .i64 0, .int .i64 0, .int .i64 0, .int .i64 1]) (by simp [results, Try.results13, go_sem]) rfl ⟨by rw [H.out], rfl⟩
  by_cases h2 : 276 ≤ k
  · have H := Lib.hid (wayV_of (way_2 k h2))
    go_enter Try.func13, Try.ntmps13
    go_wp2
    exact bodyPost_ret (v := .tuple #[.int .i64 0, .int .i64 0, .int .i64 0, .int .i64 1]) (by simp [results, Try.results13, go_sem]) rfl ⟨by rw [H.out], rfl⟩
  have h2' : decide (276 ≤ k) = false := by simpa using h2
  by_cases h3 : k < 4
  · have H := Lib.hid (wayV_of (way_3 k (by omega) h3))
    go_enter Try.func13, Try.ntmps13
    go_wp2
    exact bodyPost_ret (v := .tuple #[.int .i64 0, .int .i64 k, .int .i64 0, .int .i64 0]) (by simp [results, Try.results13, go_sem]) rfl ⟨by rw [H.out], rfl⟩
  by_cases h4 : k < 20
  · have H := Lib.hid (wayV_of (way_4 k (by omega) h4))
    go_enter Try.func13, Try.ntmps13
    go_wp2
    exact bodyPost_ret (v := .tuple #[.int .i64 1, .int .i64 (k - 4), .int .i64 0, .int .i64 0]) (by simp [results, Try.results13, go_sem]) rfl ⟨by rw [H.out], rfl⟩
  · have H := Lib.hid (wayV_of (way_5 k (by omega) (by omega)))
    go_enter Try.func13, Try.ntmps13
    go_wp2
    exact bodyPost_ret (v := .tuple #[.int .i64 2, .int .i64 ((k - 20) / 16), .int .i64 ((k - 20) % 16), .int .i64 0]) (by simp [results, Try.results13, go_sem]) rfl ⟨by rw [H.out], rfl⟩

def exN (n : Int) : Int := if n < 0 ∨ 276 < n then 0 else if 20 < n then 2 + (n - 5) / 16 else if 4 < n then 1 else 0
def exE (n : Int) : Int := if n < 0 ∨ 276 < n then 1 else 0
theorem extra_any (n : Int) (w : World) :
    Calls Try.prog 14 #[.int .i64 n] w fun e w' => e = .returned (.tuple #[.int .i64 (exN n), .int .i64 (exE n)]) ∧ w = w' := by
  by_cases h1 : n < 0
  · have H := Lib.hid (show exN n = 0 ∧ exE n = 1 by unfold exN exE; omega)
    go_enter Try.func14, Try.ntmps14
    go_wp2
    go_ret2
    exact ⟨by rw [H.out.1, H.out.2]; rfl, rfl⟩
  by_cases h2 : 276 < n
  · have H := Lib.hid (show exN n = 0 ∧ exE n = 1 by unfold exN exE; omega)
    go_enter Try.func14, Try.ntmps14
    go_wp2
    go_ret2
    exact ⟨by rw [H.out.1, H.out.2]; rfl, rfl⟩
  have h2' : decide (276 < n) = false := by simpa using h2
  by_cases h3 : 20 < n
  · have H := Lib.hid (show exN n = 1 + (n - 4 - 1) / 16 + 1 ∧ exE n = 0 by unfold exN exE; omega)
    go_enter Try.func14, Try.ntmps14
    go_wp2
    go_ret2
    exact ⟨by rw [H.out.1, H.out.2]; rfl, rfl⟩
  by_cases h4 : 4 < n
  · have H := Lib.hid (show exN n = 1 ∧ exE n = 0 by unfold exN exE; omega)
    go_enter Try.func14, Try.ntmps14
    go_wp2
    go_ret2
    exact ⟨by rw [H.out.1, H.out.2]; rfl, rfl⟩
  · have H := Lib.hid (show exN n = 0 ∧ exE n = 0 by unfold exN exE; omega)
    go_enter Try.func14, Try.ntmps14
    go_wp2
    go_ret2
    exact ⟨by rw [H.out.1, H.out.2]; rfl, rfl⟩

def blk (n : Int) : Int := if n < 1 then 0 else (n - 1) / 128 + 1
theorem blocks_any (n : Int) (w : World) (h : n ≤ 9223372036854775807) :
    Calls Try.prog 6 #[.int .i64 n] w fun e w' => e = .returned (.int .i64 (blk n)) ∧ w = w' := by
  by_cases h1 : n < 1
  · go_enter Try.func6, Try.ntmps6
    go_wp2
    go_ret
    exact ⟨by rw [blk, if_pos h1]; rfl, rfl⟩
  · go_enter Try.func6, Try.ntmps6
    go_wp2
    go_ret
    exact ⟨by rw [blk, if_neg (by omega)]; rfl, rfl⟩

theorem bmap_known (w : World) :
    Calls Try.prog 9 #[] w fun e w' => e = .returned (.bool true) ∧ w = w' := by
  have H1 := Lib.hid (wayV_of (way_4 4 (by omega) (by omega)))
  have H2 := Lib.hid (wayV_of (way_5 20 (by omega) (by omega)))
  have H3 := Lib.hid (show exN 5 = 1 ∧ exE 5 = 0 by decide)
  go_enter Try.func9, Try.ntmps9
  go_wp2_with fail
  refine (way_any 4 _).mono ?_
  rintro e w' ⟨rfl, rfl⟩
  rw [H1.out]
  go_wp2_with fail
  refine (way_any 20 _).mono ?_
  rintro e w' ⟨rfl, rfl⟩
  rw [H2.out]
  go_wp2_with fail
  refine (extra_any 5 _).mono ?_
  rintro e w' ⟨rfl, rfl⟩
  rw [H3.out.1, H3.out.2]
  go_wp2_with fail
  go_ret
  exact ⟨rfl, rfl⟩
end Go.Proofs.Ytklckjmlifddjaa
