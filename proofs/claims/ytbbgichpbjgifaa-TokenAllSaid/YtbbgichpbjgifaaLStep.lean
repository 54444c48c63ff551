/- A number with one digit more: both texts answer the same. -/
import Derived.Test.YtbbgichpbjgifaaQ4
namespace Go.Proofs.Ytbbgichpbjgifaa.Q
open Go.RowKit Go.Proofs.YtbbgichpbjgifaaW.PrintWords Go.Proofs.YtbbgichpbjgifaaW.PrintLast
set_option linter.unusedVariables false
def stepS (n c m : Int) : Int × Int := if c < 48 ∨ 57 < c then (0, 3) else if m < 10 * n + (c - 48) then (0, 4) else (10 * n + (c - 48), 0)
theorem step_is (k : Nat) (n c m : Int) (hn : 0 ≤ n) (hn1 : n ≤ 4611686018427387904) (hm : 0 ≤ m) (hm1 : m ≤ 4611686018427387904) (hc : 0 ≤ c) (hc1 : c ≤ 255) : num_Step.f (k + 1) n c m = some (stepS n c m) := by
  have w0 : wrap64 ((wrap64 c) - 48) = c - 48 := by unfold wrap64; omega
  unfold num_Step.f stepS
  rw [w0]
  by_cases h1 : c - 48 < 0
  · rw [if_pos h1]; simp only [num_Step.j0]; rw [if_pos trivial, if_pos (by omega)]
  · rw [if_neg h1]; simp only [num_Step.j0]
    by_cases h2 : c - 48 > 9
    · rw [if_pos (by simpa using h2), if_pos (by omega)]
    · rw [if_neg (by simpa using h2), if_neg (show ¬ (c < 48 ∨ 57 < c) by omega)]
      by_cases h3 : c - 48 > m
      · rw [if_pos h3, if_pos (by omega)]
      · rw [if_neg h3]
        have w1 : wrap64 (m - (c - 48)) = m - (c - 48) := by unfold wrap64; omega
        have w2 : wrap64 (Int.tdiv (m - (c - 48)) 10) = (m - (c - 48)) / 10 := by rw [Int.tdiv_eq_ediv_of_nonneg (by omega)]; unfold wrap64; omega
        rw [w1, w2]
        by_cases h4 : n > (m - (c - 48)) / 10
        · rw [if_pos h4, if_pos (by omega)]
        · rw [if_neg h4, if_neg (by omega)]
          have w3 : wrap64 (10 * n) = 10 * n := by unfold wrap64; omega
          rw [w3]
          have w4 : wrap64 (10 * n + (c - 48)) = 10 * n + (c - 48) := by unfold wrap64; omega
          rw [w4]
theorem stepS_ok (n c m : Int) (hn : 0 ≤ n) (hm : 0 ≤ m) : 0 ≤ (stepS n c m).1 ∧ (stepS n c m).1 ≤ m := by
  unfold stepS
  split
  · exact ⟨by simp, by simpa using hm⟩
  · split
    · exact ⟨by simp, by simpa using hm⟩
    · exact ⟨by simp only; omega, by simp only; omega⟩
end Go.Proofs.Ytbbgichpbjgifaa.Q
