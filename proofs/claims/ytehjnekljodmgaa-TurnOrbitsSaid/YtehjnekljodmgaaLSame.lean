/- Whether two rows of numbers are the same. -/
import Derived.Test.YtehjnekljodmgaaQ15
namespace Go.Proofs.Ytehjnekljodmgaa.Q
open Go.RowKit Go.Proofs.YtehjnekljodmgaaW.PrintWords Go.Proofs.YtehjnekljodmgaaW.PrintLast
set_option linter.unusedVariables false
theorem same_go (a b : List Int) (hab : a.length = b.length) (ha : a.length ≤ 1000000) : ∀ (d i k : Nat), a.length - i ≤ d → i ≤ a.length → a.take i = b.take i → d < k → chequerref01_Same.l0 k a b (i : Int) = some (decide (a = b)) := by
  intro d
  induction d with
  | zero =>
    intro i k hd hi h hk
    obtain ⟨k, rfl⟩ : ∃ m, k = m + 1 := ⟨k - 1, by omega⟩
    rw [List.take_of_length_le (by omega), List.take_of_length_le (by omega)] at h
    rw [chequerref01_Same.l0, if_neg (by omega), decide_eq_true h]
  | succ d ih =>
    intro i k hd hi h hk
    by_cases hlt : i < a.length
    · obtain ⟨k, rfl⟩ : ∃ m, k = m + 1 := ⟨k - 1, by omega⟩
      have q1 : a.length - (i + 1) ≤ d := by omega
      have q2 : i + 1 ≤ a.length := by omega
      have q3 : d < k := by omega
      have hw : wrap64 ((i : Int) + 1) = ((i + 1 : Nat) : Int) := by unfold wrap64; omega
      have ra : rd a (i : Int) = a[i] := by unfold rd; rw [Int.toNat_natCast, List.getD_eq_getElem?_getD, List.getElem?_eq_getElem hlt]; rfl
      have rb : rd b (i : Int) = b[i] := by unfold rd; rw [Int.toNat_natCast, List.getD_eq_getElem?_getD, List.getElem?_eq_getElem (by omega)]; rfl
      have c1 : (i : Int) < (a.length : Int) := by omega
      have c2 : (0 : Int) ≤ (i : Int) := by omega
      have c3 : (i : Int) < (b.length : Int) := by omega
      have key : a[i] = b[i] → chequerref01_Same.l0 k a b ((i + 1 : Nat) : Int) = some (decide (a = b)) := fun e => ih (i + 1) k q1 q2 (by rw [List.take_add_one, List.take_add_one, h, List.getElem?_eq_getElem hlt, List.getElem?_eq_getElem (show i < b.length from hab ▸ hlt), e]) q3
      rw [chequerref01_Same.l0, hw, ra, rb, if_pos c1, if_pos c2, if_pos c3]
      by_cases e : a[i] = b[i]
      · rw [if_pos e]
        exact key e
      · rw [if_neg e, decide_eq_false]
        intro hh
        subst hh
        exact e rfl
    · exact ih i k (by omega) hi h (by omega)
theorem same_is (a b : List Int) (ha : a.length ≤ 1000000) (k : Nat) (hk : 1000001 ≤ k) : chequerref01_Same.f k a b = some (decide (a = b)) := by
  unfold chequerref01_Same.f
  by_cases h : a.length = b.length
  · rw [if_pos (by omega)]
    exact same_go a b h ha a.length 0 k (by omega) (by omega) rfl (by omega)
  · rw [if_neg (by omega), decide_eq_false]
    intro e
    exact h (by rw [e])
theorem same_few (a b : List Int) (hab : a.length = b.length) (ha : a.length ≤ 1000) (k : Nat) (hk : a.length < k) : chequerref01_Same.f k a b = some (decide (a = b)) := by
  unfold chequerref01_Same.f
  rw [if_pos (by rw [hab])]
  exact same_go a b hab (Nat.le_trans ha (by decide)) a.length 0 k (by omega) (Nat.zero_le _) rfl hk
end Go.Proofs.Ytehjnekljodmgaa.Q
