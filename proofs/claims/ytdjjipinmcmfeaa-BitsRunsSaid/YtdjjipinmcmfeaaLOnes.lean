/- Numbers made 0 or 1. -/
import Derived.Test.YtdjjipinmcmfeaaLPack
import Derived.Test.YtdjjipinmcmfeaaQ4
namespace Go.Proofs.Ytdjjipinmcmfeaa.Q
open Go.RowKit Go.Proofs.YtdjjipinmcmfeaaW.PrintWords Go.Proofs.YtdjjipinmcmfeaaW.PrintLast
set_option linter.unusedVariables false
def onesL (l : List Int) : List Int := l.map fun x => if Int.tmod x 2 = 0 then 0 else 1
theorem onesL_01 (l : List Int) : only01 (onesL l) := by
  intro x hx
  obtain ⟨y, _, rfl⟩ := List.mem_map.1 hx
  split
  · exact .inl rfl
  · exact .inr rfl
theorem onesL_len (l : List Int) : (onesL l).length = l.length := by simp [onesL]
theorem ones_go (l : List Int) (m : Nat) (hm : m ≤ 1000) : ∀ (d i k : Nat), m - i = d → i ≤ m → i ≤ l.length → 2 * d + 2 < k → chequerref07_Ones.l0 k l (m : Int) (onesL (l.take i)) (i : Int) = some (onesL (l.take m)) := by
  intro d
  induction d with
  | zero =>
    intro i k hd hi hl hk
    obtain ⟨k, rfl⟩ : ∃ m, k = m + 2 := ⟨k - 2, by omega⟩
    have e : i = m := by omega
    subst e
    rw [chequerref07_Ones.l0]
    by_cases h : (i : Int) < (l.length : Int)
    · rw [if_pos h, decide_eq_false (by omega), chequerref07_Ones.j1, if_neg (by decide)]
    · rw [if_neg h, chequerref07_Ones.j1, if_neg (by decide)]
  | succ d ih =>
    intro i k hd hi hl hk
    obtain ⟨k, rfl⟩ : ∃ m, k = m + 2 := ⟨k - 2, by omega⟩
    by_cases h : i < l.length
    · have hrd : rd l (i : Int) = l[i] := by unfold rd; rw [Int.toNat_natCast, List.getD_eq_getElem?_getD, List.getElem?_eq_getElem h]; rfl
      have hlen : (onesL (l.take i)).length < 17592186044416 := by rw [onesL_len, List.length_take]; omega
      have c1 : (i : Int) < (l.length : Int) := by omega
      have c2 : (i : Int) < (m : Int) := by omega
      have c3 : (0 : Int) ≤ (i : Int) := by omega
      have e : onesL (l.take (i + 1)) = onesL (l.take i) ++ [if Int.tmod l[i] 2 = 0 then 0 else 1] := by
        unfold onesL
        rw [List.take_add_one, List.getElem?_eq_getElem h, List.map_append]
        rfl
      have key := ih (i + 1) k (by omega) (by omega) (by omega) (by omega)
      have hw : wrap64 ((i : Int) + 1) = ((i + 1 : Nat) : Int) := by clear hrd key e; unfold wrap64; omega
      rw [e] at key
      rw [chequerref07_Ones.l0, if_pos c1, decide_eq_true c2, chequerref07_Ones.j1, if_pos rfl, if_pos c3, if_pos c1, hrd, hw]
      by_cases h2 : Int.tmod l[i] 2 = 0
      · rw [if_pos h2] at key
        rw [if_pos h2, if_pos hlen]
        exact key
      · rw [if_neg h2] at key
        rw [if_neg h2, if_pos hlen]
        exact key
    · have e : i = l.length := by omega
      rw [chequerref07_Ones.l0, if_neg (by omega), chequerref07_Ones.j1, if_neg (by decide), List.take_of_length_le (by omega), List.take_of_length_le (by omega)]
theorem ones_is (l : List Int) (m : Nat) (hm : m ≤ 1000) (k : Nat) (hk : 3000 ≤ k) : chequerref07_Ones.f k l (m : Int) = some (onesL (l.take m)) := by
  unfold chequerref07_Ones.f
  exact ones_go l m hm m 0 k (by omega) (by omega) (by omega) (by omega)
end Go.Proofs.Ytdjjipinmcmfeaa.Q
