/- A number with one digit more: the document's text. -/
import Derived.Test.YtbbgichpbjgifaaLStep
import Derived.Test.YtbbgichpbjgifaaQ13
namespace Go.Proofs.Ytbbgichpbjgifaa.Q
open Go.RowKit Go.Proofs.YtbbgichpbjgifaaW.PrintWords Go.Proofs.YtbbgichpbjgifaaW.PrintLast
set_option linter.unusedVariables false
theorem refstep_is (k : Nat) (n c m : Int) (hn : 0 ≤ n) (hn1 : n ≤ 4611686018427387904) (hm : 0 ≤ m) (hm1 : m ≤ 4611686018427387904) (hc : 0 ≤ c) (hc1 : c ≤ 255) : chequerref02_Step.f (k + 1) n c m = some (stepS n c m) := by
  have w0 : wrap64 ((wrap64 c) - 48) = c - 48 := by unfold wrap64; omega
  have w1 : wrap64 (Int.tdiv m 10) = m / 10 := by rw [Int.tdiv_eq_ediv_of_nonneg hm]; unfold wrap64; omega
  have w2 : Int.tmod m 10 = m % 10 := Int.tmod_eq_emod_of_nonneg hm
  unfold chequerref02_Step.f stepS
  by_cases h1 : c < 48
  · rw [if_pos h1]; simp only [chequerref02_Step.j0]; rw [if_pos trivial, if_pos (by omega)]
  · rw [if_neg h1]; simp only [chequerref02_Step.j0]
    by_cases h2 : c > 57
    · rw [if_pos (by simpa using h2), if_pos (by omega)]
    · rw [if_neg (by simpa using h2), if_neg (show ¬ (c < 48 ∨ 57 < c) by omega), w0, w1, w2]
      by_cases h3 : n > m / 10
      · rw [if_pos h3, if_pos (by omega)]
      · rw [if_neg h3]
        have w3 : wrap64 (n * 10) = 10 * n := by unfold wrap64; omega
        rw [w3]
        have w4 : wrap64 (10 * n + (c - 48)) = 10 * n + (c - 48) := by unfold wrap64; omega
        rw [w4]
        by_cases h4 : n = m / 10
        · rw [if_pos h4]
          by_cases h5 : c - 48 > m % 10
          · rw [if_pos h5, if_pos (by omega)]
          · rw [if_neg h5, if_neg (by omega)]
        · rw [if_neg h4, if_neg (by omega)]
end Go.Proofs.Ytbbgichpbjgifaa.Q
