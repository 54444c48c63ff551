/- slices.Reverse. -/
import Derived.Test.YtdjjipinmcmfeaaQ7
namespace Go.Proofs.Ytdjjipinmcmfeaa.Q
open Go.RowKit Go.Proofs.YtdjjipinmcmfeaaW.PrintWords Go.Proofs.YtdjjipinmcmfeaaW.PrintLast
set_option linter.unusedVariables false
theorem slices_Reverse_int_int.go (xs : List Int) (hn : xs.length ≤ 9223372036854775807) : ∀ (d k i : Nat) (c : List Int), c.length = xs.length → 2 * i ≤ xs.length → xs.length - 2 * i ≤ d → d < k →
    (∀ m, c[m]? = if m < i ∨ xs.length ≤ m + i then xs.reverse[m]? else xs[m]?) → slices_Reverse_int_int.l0 k c (i : Int) ((xs.length : Int) - 1 - i) = some xs.reverse := by
  intro d
  induction d with
  | zero =>
    intro k i c hc hi hd hk hm
    obtain ⟨k, rfl⟩ : ∃ m, k = m + 1 := ⟨k - 1, by omega⟩
    simp only [slices_Reverse_int_int.l0]
    rw [if_neg (by omega)]
    congr 1
    apply List.ext_getElem?
    intro m
    rw [hm m, if_pos (by omega)]
  | succ d ih =>
    intro k i c hc hi hd hk hm
    obtain ⟨k, rfl⟩ : ∃ m, k = m + 1 := ⟨k - 1, by omega⟩
    simp only [slices_Reverse_int_int.l0]
    by_cases hlt : (i : Int) < (xs.length : Int) - 1 - i
    · rw [if_pos hlt, if_pos (by omega), if_pos (by omega), if_pos (by omega), if_pos (by omega)]
      have w1 : wrap64 ((i : Int) + 1) = ((i + 1 : Nat) : Int) := by unfold wrap64; omega
      have w2 : wrap64 ((xs.length : Int) - 1 - i - 1) = (xs.length : Int) - 1 - ((i + 1 : Nat) : Int) := by unfold wrap64; omega
      have e1 : (i : Int).toNat = i := by omega
      have e2 : ((xs.length : Int) - 1 - i).toNat = xs.length - 1 - i := by omega
      rw [w1, w2, e1, e2]
      have r1 : rd c (i : Int) = (xs[i]?).getD 0 := by unfold rd; rw [e1, List.getD_eq_getElem?_getD, hm i, if_neg (by omega)]
      have r2 : rd c ((xs.length : Int) - 1 - i) = (xs[xs.length - 1 - i]?).getD 0 := by unfold rd; rw [e2, List.getD_eq_getElem?_getD, hm _, if_neg (by omega)]
      rw [r1, r2]
      apply ih k (i + 1)
      · simp [hc]
      · omega
      · omega
      · omega
      · intro m
        rw [List.getElem?_set, List.getElem?_set]
        simp only [List.length_set, hc]
        by_cases h1 : xs.length - 1 - i = m
        · subst h1
          rw [if_pos rfl, if_pos (by omega), if_pos (by omega), List.getElem?_reverse (by omega)]
          have : xs.length - 1 - (xs.length - 1 - i) = i := by omega
          rw [this, List.getElem?_eq_getElem (by omega)]
          rfl
        · rw [if_neg h1]
          by_cases h2 : i = m
          · subst h2
            rw [if_pos rfl, if_pos (by omega), if_pos (by omega), List.getElem?_reverse (by omega), List.getElem?_eq_getElem (by omega)]
            rfl
          · rw [if_neg h2, hm m]
            by_cases h3 : m < i ∨ xs.length ≤ m + i
            · rw [if_pos h3, if_pos (by omega)]
            · rw [if_neg h3, if_neg (by omega)]
    · rw [if_neg hlt]
      congr 1
      apply List.ext_getElem?
      intro m
      rw [hm m]
      by_cases h3 : m < i ∨ xs.length ≤ m + i
      · rw [if_pos h3]
      · rw [if_neg h3, List.getElem?_reverse (by omega)]
        congr 1
        omega
theorem slices_Reverse_int_int.rev (xs : List Int) (hn : xs.length ≤ 9223372036854775807) : slices_Reverse_int_int.f (xs.length + 1) xs = some xs.reverse := by
  unfold slices_Reverse_int_int.f
  have : wrap64 ((xs.length : Int) - 1) = (xs.length : Int) - 1 - ((0 : Nat) : Int) := by unfold wrap64; omega
  rw [this]
  exact slices_Reverse_int_int.go xs hn xs.length _ 0 xs rfl (by omega) (by omega) (by omega) (fun m => by
    by_cases h : xs.length ≤ m
    · rw [if_pos (by omega), List.getElem?_eq_none h, List.getElem?_eq_none (by simp; omega)]
    · rw [if_neg (by omega)])
theorem rev_is (xs : List Int) (hn : xs.length ≤ 9223372036854775807) (k : Nat) (hk : xs.length < k) : slices_Reverse_int_int.f k xs = some xs.reverse := by
  unfold slices_Reverse_int_int.f
  have : wrap64 ((xs.length : Int) - 1) = (xs.length : Int) - 1 - ((0 : Nat) : Int) := by unfold wrap64; omega
  rw [this]
  exact slices_Reverse_int_int.go xs hn xs.length _ 0 xs rfl (by omega) (by omega) (by omega) (fun m => by
    by_cases h : xs.length ≤ m
    · rw [if_pos (by omega), List.getElem?_eq_none h, List.getElem?_eq_none (by simp; omega)]
    · rw [if_neg (by omega)])
end Go.Proofs.Ytdjjipinmcmfeaa.Q
