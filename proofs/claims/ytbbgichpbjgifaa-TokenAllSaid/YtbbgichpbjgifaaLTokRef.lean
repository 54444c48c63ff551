/- A reader of numbers: the document's text turns as is told. -/
import Derived.Test.YtbbgichpbjgifaaLStep
import Derived.Test.YtbbgichpbjgifaaLStepRef
import Derived.Test.YtbbgichpbjgifaaLToken
import Derived.Test.YtbbgichpbjgifaaQ13
namespace Go.Proofs.Ytbbgichpbjgifaa.Q
open Go.RowKit Go.Proofs.YtbbgichpbjgifaaW.PrintWords Go.Proofs.YtbbgichpbjgifaaW.PrintLast
set_option linter.unusedVariables false
theorem refblank_is (c : Int) : chequerref05_Blank.f c = some (decide (blankP c)) := by
  unfold chequerref05_Blank.f
  by_cases h : c = 32
  · rw [if_pos h, decide_eq_true (.inl h)]
  · rw [if_neg h]
    by_cases h2 : c ≥ 9
    · rw [if_pos h2]
      congr 1
      apply decide_eq_decide.2
      unfold blankP
      omega
    · rw [if_neg h2, decide_eq_false (by unfold blankP; omega)]
theorem refput_is (k : Nat) (a n m e c : Int) (ha : 0 ≤ a ∧ a ≤ 5) (hn : 0 ≤ n) (hn1 : n ≤ m) (hm : m ≤ 4611686018427387904) (hc : 0 ≤ c) (hc1 : c ≤ 255) :
    chequerref05_Put.f (k + 3) a n m e c = some ((tkS a n m e c).1, (tkS a n m e c).2.1, m, (tkS a n m e c).2.2.1, (tkS a n m e c).2.2.2) := by
  have hj : ∀ (q : Bool), q = decide (c = 10 ∨ c = 13) → a ≠ 4 → a ≠ 5 → chequerref05_Put.j0 (k + 3) c q a n m e = some ((tkS a n m e c).1, (tkS a n m e c).2.1, m, (tkS a n m e c).2.2.1, (tkS a n m e c).2.2.2) := by
    intro q hq h4 h5
    unfold tkS
    rw [if_neg h4, if_neg h5]
    simp only [chequerref05_Put.j0]
    by_cases h1 : a = 1
    · rw [if_pos h1, if_pos h1, hq]
      by_cases hl : c = 10 ∨ c = 13
      · rw [if_pos (decide_eq_true hl), if_pos hl]
      · rw [if_neg (by simpa using hl), if_neg hl, h1]
    · rw [if_neg h1, if_neg h1]
      by_cases h3 : a = 3
      · rw [if_pos h3, if_pos h3, hq]
        by_cases hl : c = 10 ∨ c = 13
        · rw [if_pos (decide_eq_true hl), if_pos hl]
        · rw [if_neg (by simpa using hl), if_neg hl, h3]
      · rw [if_neg h3, if_neg h3]
        by_cases h35 : c = 35
        · rw [if_pos h35, if_pos h35, show wrap64 (a + 1) = a + 1 from by unfold wrap64; omega]
        · rw [if_neg h35, if_neg h35, refblank_is, Option.bind_some]
          by_cases hb : blankP c
          · rw [decide_eq_true hb, if_pos rfl, if_pos hb]
            simp only [chequerref05_Put.j1]
            by_cases h0 : a = 0
            · rw [if_pos (by simp [h0]), if_pos h0, h0]
            · rw [if_neg (by simp [h0]), if_neg h0, refblank_is, Option.bind_some, decide_eq_true hb, if_pos rfl]
          · rw [decide_eq_false hb, if_neg (by decide), if_neg hb]
            simp only [chequerref05_Put.j1]
            rw [if_neg (by decide), refblank_is, Option.bind_some, decide_eq_false hb, if_neg (by decide), refstep_is k n c m hn (by omega) (by omega) (by omega) hc hc1, Option.bind_some]
            by_cases hs : (stepS n c m).2 = 0
            · rw [if_pos hs, if_pos hs]
            · rw [if_neg hs, if_neg hs]
  unfold chequerref05_Put.f
  by_cases h4 : a = 4
  · rw [if_pos h4]; unfold tkS; rw [if_pos h4, h4]
  · rw [if_neg h4]
    by_cases h5 : a = 5
    · rw [if_pos h5]; unfold tkS; rw [if_neg h4, if_pos h5, h5]
    · rw [if_neg h5]
      by_cases h10 : c = 10
      · rw [if_pos h10]; exact hj true (by rw [decide_eq_true (.inl h10)]) h4 h5
      · rw [if_neg h10]; exact hj _ (by by_cases h13 : c = 13 <;> simp [h10, h13]) h4 h5
end Go.Proofs.Ytbbgichpbjgifaa.Q
