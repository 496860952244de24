/- Plain arithmetic for layer 28: what Passes computes. No condition. -/
import Derived.Test.YtcgjojjgagaliaaDoorCore
namespace Go.Proofs.YtcgjojjgagaliaaDoor
open Go.RowKit
/-- depth number k + 1 of n. -/
def dep (d : Int) (n k : Nat) : Int := ((k + 1 : Int) * d + n - 1) / n
/-- The first k depths, then zeros up to n. -/
def deps (d : Int) (n k : Nat) : List Int := (List.range k).map (dep d n) ++ List.replicate (n - k) 0
theorem deps_len (d : Int) (n k : Nat) (h : k ≤ n) : (deps d n k).length = n := by simp [deps]; omega
theorem deps_set (d : Int) (n k : Nat) (h : k < n) : (deps d n k).set k (dep d n k) = deps d n (k + 1) := by
  unfold deps
  rw [List.range_succ, List.map_append, List.append_assoc, List.set_append_right _ _ (by simp)]
  obtain ⟨m, hm⟩ : ∃ m, n - k = m + 1 := ⟨n - k - 1, by omega⟩
  rw [hm, show n - (k + 1) = m from by omega]
  simp [List.replicate_succ]
/-- The number of passes: the least n with d ≤ n * s. -/
theorem passes_lt (d s n m : Int) (hs : 1 ≤ s) (h : (d + s - 1) / s = n) : m * s < d ↔ m < n := by
  subst h
  rw [Int.lt_iff_add_one_le (a := m), Int.le_ediv_iff_mul_le (by omega), Int.add_mul]; omega
/-- The depth as the reference computes it: rounded down, and one more if that is not exact. -/
theorem dep_ref (d : Int) (n k : Nat) (hn : 1 ≤ n) : dep d n k = if ((k + 1 : Int) * d / n) * n < (k + 1 : Int) * d then (k + 1 : Int) * d / n + 1 else (k + 1 : Int) * d / n := by
  unfold dep
  generalize (k + 1 : Int) * d = x
  have hn' : (0 : Int) < n := by omega
  have h1 := Int.mul_ediv_add_emod x n
  have h2 := Int.emod_nonneg x (show (n : Int) ≠ 0 by omega)
  have h3 := Int.emod_lt_of_pos x hn'
  have hc : (n : Int) * (x / n) = x / n * n := Int.mul_comm _ _
  split
  · have e : x + n - 1 = (x % n - 1) + n * (x / n + 1) := by rw [Int.mul_add]; omega
    rw [e, Int.add_mul_ediv_left _ _ (by omega), Int.ediv_eq_zero_of_lt (by omega) (by omega)]; omega
  · have e : x + n - 1 = (n - 1) + n * (x / n) := by omega
    rw [e, Int.add_mul_ediv_left _ _ (by omega), Int.ediv_eq_zero_of_lt (by omega) (by omega)]; omega
theorem deps_take (d : Int) (n k : Nat) (h : k < n) : (List.range (k + 1)).map (dep d n) = (List.range k).map (dep d n) ++ [dep d n k] := by
  rw [List.range_succ]; simp
theorem deps_full (d : Int) (n : Nat) : deps d n n = (List.range n).map (dep d n) := by simp [deps]
end Go.Proofs.YtcgjojjgagaliaaDoor
