/- Two numbers together, and one times another one: both texts answer the same. -/
import Derived.Test.YtkkcjhnhbddooaaInum_Mul
import Derived.Test.YtkkcjhnhbddooaaQ10
import Derived.Test.YtkkcjhnhbddooaaQ8
namespace Go.Proofs.Ytkkcjhnhbddooaa.Q
open Go.RowKit Go.Proofs.YtkkcjhnhbddooaaW.PrintWords Go.Proofs.YtkkcjhnhbddooaaW.PrintLast
set_option linter.unusedVariables false
theorem add_both (k : Nat) (a b : Int) (a0 : -9223372036854775808 ≤ a) (a1 : a ≤ 9223372036854775807) (b0 : -9223372036854775808 ≤ b) (b1 : b ≤ 9223372036854775807) : ∃ r, num_Add.f a b = some r ∧ chequerref02_Add.f (k + 1) a b = some r := by
  by_cases hb : b > 0
  · have hz : ¬ b = 0 := by omega
    have hn : ¬ b < 0 := by omega
    have w : wrap64 (9223372036854775807 - b) = 9223372036854775807 - b := by unfold wrap64; omega
    by_cases h : a > 9223372036854775807 - b
    · have n1 : ¬ (wrap64 (a + b) > a) := by unfold wrap64; omega
      refine ⟨(0, false), ?_, ?_⟩
      · unfold num_Add.f
        rw [decide_eq_false n1, decide_eq_true hb, if_neg hz]
        rfl
      · unfold chequerref02_Add.f
        rw [if_pos hb, w, decide_eq_true h]
        rfl
    · have n1 : wrap64 (a + b) > a := by unfold wrap64; omega
      refine ⟨(wrap64 (a + b), true), ?_, ?_⟩
      · unfold num_Add.f
        rw [decide_eq_true n1, decide_eq_true hb]
        rfl
      · unfold chequerref02_Add.f
        rw [if_pos hb, w, decide_eq_false h]
        simp only [chequerref02_Add.j0]
        rw [if_neg hn]
        rfl
  · by_cases hz : b = 0
    · subst hz
      refine ⟨(wrap64 (a + 0), true), ?_, ?_⟩
      · unfold num_Add.f
        rw [if_pos rfl]
        split <;> rfl
      · unfold chequerref02_Add.f
        rw [if_neg hb]
        simp only [chequerref02_Add.j0]
        rw [if_neg (show ¬ ((0 : Int) < 0) by omega)]
        rfl
    · have hn : b < 0 := by omega
      have w : wrap64 ((-9223372036854775808) - b) = (-9223372036854775808) - b := by unfold wrap64; omega
      by_cases h : a < (-9223372036854775808) - b
      · have n1 : wrap64 (a + b) > a := by unfold wrap64; omega
        refine ⟨(0, false), ?_, ?_⟩
        · unfold num_Add.f
          rw [decide_eq_true n1, decide_eq_false hb, if_neg hz]
          rfl
        · unfold chequerref02_Add.f
          rw [if_neg hb]
          simp only [chequerref02_Add.j0]
          rw [if_pos hn, w, if_pos h]
          rfl
      · have n1 : ¬ wrap64 (a + b) > a := by unfold wrap64; omega
        refine ⟨(wrap64 (a + b), true), ?_, ?_⟩
        · unfold num_Add.f
          rw [decide_eq_false n1, decide_eq_false hb]
          rfl
        · unfold chequerref02_Add.f
          rw [if_neg hb]
          simp only [chequerref02_Add.j0]
          rw [if_pos hn, w, if_neg h]
          rfl
theorem refmul_j1 (k : Nat) (a b : Int) (ha : num_fits a) (hb : num_fits b) (h0 : b ≠ 0) (hx : ¬ (a = -9223372036854775808 ∧ b = -1)) (x : Bool) (hx' : x = false) :
    chequerref02_Mul.j1 (k + 1) a b x = if num_fits (a * b) then some (a * b, true) else some (0, false) := by
  subst hx'
  simp only [chequerref02_Mul.j1]
  rw [if_neg (by decide), if_neg h0]
  unfold num_fits at ha hb
  by_cases hf : num_fits (a * b)
  · have hf' := hf
    unfold num_fits at hf'
    have w : wrap64 (a * b) = a * b := IntWalk.wrap64_in _ ⟨by omega, by omega⟩
    have w2 : wrap64 a = a := IntWalk.wrap64_in _ ⟨by omega, by omega⟩
    rw [w, Int.mul_tdiv_cancel _ h0, w2, Int.mul_tmod_left, if_pos rfl, if_pos rfl, if_pos hf]
  · rw [if_neg hf]
    by_cases h1 : wrap64 (Int.tdiv (wrap64 (a * b)) b) = a
    · rw [if_pos h1]
      by_cases h2 : Int.tmod (wrap64 (a * b)) b = 0
      · exfalso
        have hp : -9223372036854775808 ≤ wrap64 (a * b) ∧ wrap64 (a * b) ≤ 9223372036854775807 := by
          generalize a * b = z
          unfold wrap64
          omega
        generalize wrap64 (a * b) = p at *
        have hq := Int.mul_tdiv_add_tmod p b
        rw [h2, Int.add_zero] at hq
        have hle := Int.natAbs_tdiv_le_natAbs p b
        generalize Int.tdiv p b = q at *
        by_cases hbig : q = 9223372036854775808
        · have hwa : a = -9223372036854775808 := by rw [← h1, hbig]; unfold wrap64; omega
          have : b = -1 := by
            rw [hbig] at hq
            omega
          exact hx ⟨hwa, this⟩
        · have w : wrap64 q = q := by unfold wrap64; omega
          rw [w] at h1
          rw [h1, Int.mul_comm] at hq
          rw [hq] at hf
          exact hf hp
      · rw [if_neg h2]
    · rw [if_neg h1]
theorem mul_both (k : Nat) (a b : Int) (ha : num_fits a) (hb : num_fits b) : chequerref02_Mul.f (k + 3) a b = num_Mul.f a b := by
  have hm : num_Mul.f a b = if num_fits (a * b) then some (a * b, true) else some (0, false) := by unfold num_Mul.f; rw [if_pos ⟨ha, hb⟩]
  rw [hm]
  unfold chequerref02_Mul.f
  have fit0 : num_fits 0 := by unfold num_fits; omega
  by_cases h0 : a = 0
  · subst h0
    rw [if_pos rfl]
    simp only [chequerref02_Mul.j0]
    rw [if_pos trivial, Int.zero_mul, if_pos fit0]
  · rw [if_neg h0]
    simp only [chequerref02_Mul.j0]
    by_cases h1 : b = 0
    · subst h1
      rw [if_pos (by decide), Int.mul_zero, if_pos fit0]
    · rw [if_neg (by simpa using h1)]
      have nofit : ¬ num_fits 9223372036854775808 := by unfold num_fits; omega
      by_cases h2 : a = -9223372036854775808
      · rw [if_pos h2]
        by_cases h3 : b = -1
        · rw [if_pos h3]
          simp only [chequerref02_Mul.j1]
          rw [if_pos trivial, h2, h3]
          rw [if_neg (show ¬ num_fits (-9223372036854775808 * -1) from nofit)]
        · rw [if_neg h3, refmul_j1 k.succ a b ha hb h1 (by omega) (a == -1) (by rw [h2]; decide), refmul_j1 k.succ a b ha hb h1 (by omega) false rfl]
          split <;> rfl
      · rw [if_neg h2]
        by_cases h4 : b = -9223372036854775808
        · rw [if_pos h4]
          by_cases h5 : a = -1
          · simp only [chequerref02_Mul.j1]
            rw [if_pos (by simpa using h5), h5, h4]
            rw [if_neg (show ¬ num_fits (-1 * -9223372036854775808) from nofit)]
          · rw [refmul_j1 k.succ a b ha hb h1 (by omega) (a == -1) (by simpa using h5)]
        · rw [if_neg h4, refmul_j1 k.succ a b ha hb h1 (by omega) false rfl]
end Go.Proofs.Ytkkcjhnhbddooaa.Q
