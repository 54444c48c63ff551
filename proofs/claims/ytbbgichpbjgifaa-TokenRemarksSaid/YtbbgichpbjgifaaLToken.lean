/- A reader of numbers: both texts turn alike. -/
import Derived.Test.YtbbgichpbjgifaaItoken_Blank
import Derived.Test.YtbbgichpbjgifaaItoken_Number_Put
import Derived.Test.YtbbgichpbjgifaaLStep
import Derived.Test.YtbbgichpbjgifaaQ1
import Derived.Test.YtbbgichpbjgifaaQ4
namespace Go.Proofs.Ytbbgichpbjgifaa.Q
open Go.RowKit Go.Proofs.YtbbgichpbjgifaaW.PrintWords Go.Proofs.YtbbgichpbjgifaaW.PrintLast
set_option linter.unusedVariables false
def blankP (c : Int) : Prop := c = 32 ∨ (9 ≤ c ∧ c ≤ 13)
instance (c : Int) : Decidable (blankP c) := by unfold blankP; exact inferInstance
/-- How far it is, the number, the error, and what is told. -/
def tkS (a n m e c : Int) : Int × Int × Int × Int :=
  if a = 4 then (4, n, e, 1) else if a = 5 then (5, n, e, 2)
  else if a = 1 then (if c = 10 ∨ c = 13 then (0, n, e, 0) else (1, n, e, 0))
  else if a = 3 then (if c = 10 ∨ c = 13 then (4, n, 0, 1) else (3, n, e, 0))
  else if c = 35 then (a + 1, n, e, 0)
  else if blankP c then (if a = 0 then (0, n, e, 0) else (4, n, 0, 1))
  else if (stepS n c m).2 = 0 then (2, (stepS n c m).1, e, 0) else (5, 0, (stepS n c m).2, 2)
theorem blank_is (c : Int) (h0 : 0 ≤ c) (h1 : c ≤ 255) : token_Blank.f c = some (decide (blankP c)) := by
  unfold token_Blank.f
  rw [if_pos ⟨h0, h1⟩]
  rfl
theorem ends_is (c : Int) : token_ends.f c = some (decide (c = 10 ∨ c = 13)) := by
  unfold token_ends.f
  by_cases h : c = 10
  · rw [if_pos h, decide_eq_true (.inl h)]
  · rw [if_neg h]
    congr 1
    by_cases h2 : c = 13
    · rw [decide_eq_true (.inr h2)]; simp [h2]
    · rw [decide_eq_false (by omega)]; simp [h2]
/-- The program's mode and last answer, of how far it is. -/
def tkR (a m l : Int) : Prop := (l = 0 ∧ m = a ∧ 0 ≤ a ∧ a ≤ 3) ∨ (l = 1 ∧ a = 4) ∨ (l = 2 ∧ a = 5)
theorem digit_is (md n m l e c : Int) (b : Bool) (hn : 0 ≤ n) (hn1 : n ≤ m) (hm : m ≤ 4611686018427387904) (hc : 0 ≤ c) (hc1 : c ≤ 255) :
    token_Number_digit.f 2 md m n b l e c = some (if (stepS n c m).2 = 0 then (0, 2, m, (stepS n c m).1, true, l, e) else (2, md, m, 0, b, l, (stepS n c m).2)) := by
  unfold token_Number_digit.f
  rw [step_is 1 n c m hn (by omega) (by omega) (by omega) hc hc1, Option.bind_some]
  by_cases hs : (stepS n c m).2 = 0
  · rw [if_pos hs, if_pos hs]
  · rw [if_neg hs, if_neg hs]
/-- How the program turns. -/
theorem put_is (a n m e c md l : Int) (b : Bool) (hR : tkR a md l) (hb1 : a ≤ 1 → b = false) (hb2 : 2 ≤ a ∧ a ≤ 4 → b = true) (hn : 0 ≤ n) (hn1 : n ≤ m) (hm : m ≤ 4611686018427387904) (hc : 0 ≤ c) (hc1 : c ≤ 255) :
    ∃ md', token_Number_Put.f md m n b l e c = some ((tkS a n m e c).2.2.2, md', m, (tkS a n m e c).2.1, (b || decide (2 ≤ (tkS a n m e c).1 ∧ (tkS a n m e c).1 ≤ 4)), (tkS a n m e c).2.2.2, (tkS a n m e c).2.2.1) ∧ tkR (tkS a n m e c).1 md' (tkS a n m e c).2.2.2 := by
  have hn1' : n ≤ 4611686018427387904 := by omega
  unfold token_Number_Put.f
  rcases hR with ⟨rfl, rfl, h0, h3⟩ | ⟨rfl, rfl⟩ | ⟨rfl, rfl⟩
  · rw [if_pos rfl]
    have hcase : md = 0 ∨ md = 1 ∨ md = 2 ∨ md = 3 := by omega
    rcases hcase with rfl | rfl | rfl | rfl
    · obtain rfl := hb1 (by omega)
      rw [if_pos rfl]
      unfold token_Number_ahead.f
      rw [blank_is c hc hc1, Option.bind_some]
      by_cases hbl : blankP c
      · have hS : tkS 0 n m e c = (0, n, e, 0) := by
          have : c ≠ 35 := by unfold blankP at hbl; omega
          simp [tkS, hbl, this]
        rw [decide_eq_true hbl, if_pos rfl, Option.bind_some, hS]
        exact ⟨0, by simp, .inl (by simp)⟩
      · rw [decide_eq_false hbl, if_neg (by decide)]
        by_cases h35 : c = 35
        · have hS : tkS 0 n m e c = (1, n, e, 0) := by simp [tkS, h35]
          rw [if_pos h35, Option.bind_some, hS]
          exact ⟨1, by simp, .inl (by simp)⟩
        · rw [if_neg h35, digit_is 0 n m 0 e c false hn hn1 hm hc hc1, Option.bind_some, Option.bind_some]
          by_cases hs : (stepS n c m).2 = 0
          · have hS : tkS 0 n m e c = (2, (stepS n c m).1, e, 0) := by simp [tkS, h35, hbl, hs]
            rw [if_pos hs, hS]
            exact ⟨2, by simp, .inl (by simp)⟩
          · have hS : tkS 0 n m e c = (5, 0, (stepS n c m).2, 2) := by simp [tkS, h35, hbl, hs]
            rw [if_neg hs, hS]
            exact ⟨0, by simp, .inr (.inr (by simp))⟩
    · obtain rfl := hb1 (by omega)
      rw [if_neg (by omega), if_pos rfl]
      unfold token_Number_remark.f
      rw [ends_is, Option.bind_some]
      by_cases hl : c = 10 ∨ c = 13
      · have hS : tkS 1 n m e c = (0, n, e, 0) := by simp [tkS, hl]
        rw [decide_eq_true hl, if_pos rfl, Option.bind_some, hS]
        exact ⟨0, by simp, .inl (by simp)⟩
      · have hS : tkS 1 n m e c = (1, n, e, 0) := by simp [tkS, hl]
        rw [decide_eq_false hl, if_neg (by decide), Option.bind_some, hS]
        exact ⟨1, by simp, .inl (by simp)⟩
    · obtain rfl := hb2 (by omega)
      rw [if_neg (by omega), if_neg (by omega), if_pos rfl]
      unfold token_Number_behind.f
      rw [blank_is c hc hc1, Option.bind_some]
      by_cases hbl : blankP c
      · have hS : tkS 2 n m e c = (4, n, 0, 1) := by
          have : c ≠ 35 := by unfold blankP at hbl; omega
          simp [tkS, hbl, this]
        rw [decide_eq_true hbl, if_pos rfl, Option.bind_some, hS]
        exact ⟨2, by simp, .inr (.inl (by simp))⟩
      · rw [decide_eq_false hbl, if_neg (by decide)]
        by_cases h35 : c = 35
        · have hS : tkS 2 n m e c = (3, n, e, 0) := by simp [tkS, h35]
          rw [if_pos h35, Option.bind_some, hS]
          exact ⟨3, by simp, .inl (by simp)⟩
        · rw [if_neg h35, digit_is 2 n m 0 e c true hn hn1 hm hc hc1, Option.bind_some, Option.bind_some]
          by_cases hs : (stepS n c m).2 = 0
          · have hS : tkS 2 n m e c = (2, (stepS n c m).1, e, 0) := by simp [tkS, h35, hbl, hs]
            rw [if_pos hs, hS]
            exact ⟨2, by simp, .inl (by simp)⟩
          · have hS : tkS 2 n m e c = (5, 0, (stepS n c m).2, 2) := by simp [tkS, h35, hbl, hs]
            rw [if_neg hs, hS]
            exact ⟨2, by simp, .inr (.inr (by simp))⟩
    · obtain rfl := hb2 (by omega)
      rw [if_neg (by omega), if_neg (by omega), if_neg (by omega), if_pos rfl]
      unfold token_Number_end.f
      rw [ends_is, Option.bind_some]
      by_cases hl : c = 10 ∨ c = 13
      · have hS : tkS 3 n m e c = (4, n, 0, 1) := by simp [tkS, hl]
        rw [decide_eq_true hl, if_pos rfl, Option.bind_some, hS]
        exact ⟨3, by simp, .inr (.inl (by simp))⟩
      · have hS : tkS 3 n m e c = (3, n, e, 0) := by simp [tkS, hl]
        rw [decide_eq_false hl, if_neg (by decide), Option.bind_some, hS]
        exact ⟨3, by simp, .inl (by simp)⟩
  · obtain rfl := hb2 (by omega)
    have hS : tkS 4 n m e c = (4, n, e, 1) := by simp [tkS]
    rw [if_neg (by omega), hS]
    exact ⟨md, by simp, .inr (.inl (by simp))⟩
  · have hS : tkS 5 n m e c = (5, n, e, 2) := by simp [tkS]
    rw [if_neg (by omega), hS]
    exact ⟨md, by simp, .inr (.inr (by simp))⟩
/-- What stays true of a reader. -/
def tkOk (a n m e : Int) : Prop := (0 ≤ a ∧ a ≤ 5) ∧ 0 ≤ n ∧ n ≤ m ∧ ((a ≤ 3 ∧ e = 9) ∨ (a = 4 ∧ e = 0) ∨ (a = 5 ∧ n = 0 ∧ (e = 3 ∨ e = 4)))
theorem stepS_err (n c m : Int) : (stepS n c m).2 = 0 ∨ (stepS n c m).2 = 3 ∨ (stepS n c m).2 = 4 := by
  unfold stepS
  repeat' split
  all_goals simp
theorem tkS_ok (a n m e c : Int) (h : tkOk a n m e) : tkOk (tkS a n m e c).1 (tkS a n m e c).2.1 m (tkS a n m e c).2.2.1 := by
  obtain ⟨⟨h0, h5⟩, hn, hm, he⟩ := h
  have h1 := stepS_ok n c m hn (by omega)
  have h2 := stepS_err n c m
  unfold tkS tkOk
  repeat' split
  all_goals (dsimp only; omega)
theorem few_is (s : ByteArray) (n : Nat) : chequerref05_Few.f s (n : Int) = some (if s.size > n then s.extract 0 n else s) := by
  unfold chequerref05_Few.f
  by_cases h : s.size > n
  · rw [if_pos (by omega), if_pos (by omega), if_pos (by omega), if_pos h, Int.toNat_natCast]
  · rw [if_neg (by omega), if_neg h]
theorem few_size (s : ByteArray) (n : Nat) : (if s.size > n then s.extract 0 n else s).size ≤ n := by
  split
  · rw [ByteArray.size_extract]; omega
  · omega
end Go.Proofs.Ytbbgichpbjgifaa.Q
