/- A super sector with one byte turned is none: plain lists. -/
import Derived.Test.YtmedamofmlkccaaReadSuper
import Derived.Test.YtmedamofmlkccaaCrcLaw
namespace Go.Proofs.Ytmedamofmlkccaa
open Go.RowKit

theorem supHead_length (n : Nat) (id : List UInt8) (h : id.length = 16) : (supHead n id).length = 24 := by simp [supHead, be_length, h]
theorem supTail_length (c : Nat) : (supTail c).length = 104 := by simp [supTail, be_length]
theorem supBytes_length (n : Nat) (id : List UInt8) (h : id.length = 16) : (supBytes n id).length = 128 := by
  rw [supBytes, List.length_append, supHead_length n id h, supTail_length]
theorem supRead (n : Nat) (id : List UInt8) (T : List UInt8) (h : id.length = 16) (hn : n < 65536) : supN (supHead n id ++ T) = n ∧ supId (supHead n id ++ T) = id := by
  have e0 : supHead n id ++ T = [87, 79, 82, 77] ++ (be 1 2 ++ (be n 2 ++ (id ++ T))) := by simp [supHead]
  unfold supN supId
  rw [e0, rdRaw_app _ _ 4 rfl]
  simp only
  rw [rdShort_be]
  simp only
  rw [rdShort_be]
  simp only
  rw [rdRaw_app _ _ 16 (by rw [h]; rfl)]
  exact ⟨Nat.mod_eq_of_lt hn, rfl⟩
theorem supOk_bytes (n : Nat) (id : List UInt8) (h : id.length = 16) (h1 : 64 ≤ n) (h2 : n ≤ 4096) : SupOk (supBytes n id) ∧ supN (supBytes n id) = n ∧ supId (supBytes n id) = id := by
  obtain ⟨e1, e2⟩ := supRead n id (supTail (crcMore 0 (supHead n id))) h (by omega)
  have e1' : supN (supBytes n id) = n := e1
  have e2' : supId (supBytes n id) = id := e2
  exact ⟨by unfold SupOk; rw [e1', e2']; exact ⟨h1, h2, h, rfl⟩, e1', e2'⟩
theorem supTail_inj (c d : Nat) (hc : c < 4294967296) (hd : d < 4294967296) (h : supTail c = supTail d) : c = d := by
  unfold supTail at h
  have h1 := List.append_inj h (by rw [be_length, be_length])
  have h2 := (List.append_inj h1.2 (by rw [be_length, be_length])).1
  have g1 := congrArg num h1.1
  have g2 := congrArg num h2
  rw [num_be, num_be] at g1 g2
  omega
theorem xor_self_ne (x t : UInt8) (ht : t ≠ 0) : x ≠ x ^^^ t := fun h => ht (by
  have h2 := congrArg (x ^^^ ·) h
  simp only [← UInt8.xor_assoc, UInt8.xor_self, UInt8.zero_xor] at h2
  exact h2.symm)
theorem supOk_turned (n : Nat) (id : List UInt8) (h : id.length = 16) (i : Nat) (hi : i < 128) (x t : UInt8) (hx : (supBytes n id)[i]? = some x) (ht : t ≠ 0) : ¬ SupOk ((supBytes n id).set i (x ^^^ t)) := by
  intro hok
  obtain ⟨_, _, h3, h4⟩ := hok
  generalize supN ((supBytes n id).set i (x ^^^ t)) = n' at *
  generalize supId ((supBytes n id).set i (x ^^^ t)) = id' at *
  have l1 := supHead_length n id h
  have l2 := supHead_length n' id' h3
  unfold supBytes at h4
  by_cases hi24 : i < 24
  · rw [List.set_append_left _ _ (by omega)] at h4
    obtain ⟨e1, e2⟩ := List.append_inj h4 (by rw [l2, List.length_set, l1])
    have e3 := supTail_inj _ _ (crcMore_lt _ _) (crcMore_lt _ _) e2
    rw [e1] at e3
    rw [supBytes, List.getElem?_append_left (by omega), List.getElem?_eq_getElem (by omega)] at hx
    have hx' := Option.some.inj hx
    have e4 := turned_succ (supHead n id) i [t] 0 (by omega) (by simp)
    rw [turned_zero] at e4
    simp only [Nat.add_zero, List.getElem_cons_zero, hx'] at e4
    rw [← e4, crc_turned (supHead n id) i [t] 1 (by omega) (by simp) (by omega)] at e3
    exact ht (e3 t (by simp))
  · rw [List.set_append_right _ _ (by omega)] at h4
    obtain ⟨e1, e2⟩ := List.append_inj h4 (by rw [l2, l1])
    rw [e1] at e2
    have := congrArg (·[i - 24]?) e2
    simp only [l1] at this
    rw [List.getElem?_set_self (by rw [supTail_length]; omega)] at this
    have e3 : (supBytes n id)[i]? = some (x ^^^ t) := by
      rw [supBytes, List.getElem?_append_right (by omega), l1]; exact this
    rw [hx] at e3
    exact xor_self_ne x t ht (Option.some.inj e3)
end Go.Proofs.Ytmedamofmlkccaa
