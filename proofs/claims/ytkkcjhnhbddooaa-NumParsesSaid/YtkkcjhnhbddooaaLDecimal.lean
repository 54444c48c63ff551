/- A number's digits: both texts answer the same. -/
import Derived.Test.YtkkcjhnhbddooaaInum_Decimal
import Derived.Test.YtkkcjhnhbddooaaQ8
namespace Go.Proofs.Ytkkcjhnhbddooaa.Q
open Go.RowKit Go.Proofs.YtkkcjhnhbddooaaW.PrintWords Go.Proofs.YtkkcjhnhbddooaaW.PrintLast
set_option linter.unusedVariables false
theorem decR_small (u : Nat) (h : u < 10) : num_decR u = [((48 + u : Nat) : Int)] := by unfold num_decR; rw [dif_pos h]
theorem decR_big (u : Nat) (h : ¬ u < 10) : num_decR u = ((48 + u % 10 : Nat) : Int) :: num_decR (u / 10) := by rw [num_decR, dif_neg h]
theorem decR_len : ∀ (j u : Nat), u < 10 ^ (j + 1) → (num_decR u).length ≤ j + 1 := by
  intro j
  induction j with
  | zero => intro u h; rw [decR_small u (by simpa using h)]; simp
  | succ j ih =>
    intro u h
    by_cases hs : u < 10
    · rw [decR_small u hs]; simp
    · rw [decR_big u hs, List.length_cons]
      have := ih (u / 10) (by rw [Nat.pow_succ] at h; omega)
      omega
theorem strOfNums_app (a b : List Int) : strOfNums (a ++ b) = strOfNums a ++ strOfNums b := by
  apply ByteArray.ext
  rw [ByteArray.data_append]
  unfold strOfNums
  simp
theorem decL_step (n : Int) (h : ¬ n.natAbs < 10) : num_decL n = num_decL (Int.tdiv n 10) ++ [((48 + n.natAbs % 10 : Nat) : Int)] := by
  have e1 : (Int.tdiv n 10).natAbs = n.natAbs / 10 := by rw [Int.natAbs_tdiv]; rfl
  have e2 : (Int.tdiv n 10 < 0) ↔ n < 0 := by
    rcases Int.lt_or_le n 0 with hn | hn
    · have : Int.tdiv n 10 = -(Int.tdiv (-n) 10) := by rw [Int.neg_tdiv, Int.neg_neg]
      rw [this, Int.tdiv_eq_ediv_of_nonneg (by omega)]
      omega
    · rw [Int.tdiv_eq_ediv_of_nonneg hn]
      omega
  unfold num_decL
  rw [decR_big _ h, e1]
  simp only [e2, List.cons_append, List.reverse_cons]
theorem refdec_start (n : Int) (k : Nat) (h0 : -9223372036854775808 ≤ n) (h1 : n ≤ 9223372036854775807) : chequerref01_Decimal.f (k + 1) n = chequerref01_Decimal.j0 k n ((n.natAbs % 10 : Nat) : Int) := by
  simp only [chequerref01_Decimal.f]
  have ha : (Int.tmod n 10).natAbs = n.natAbs % 10 := by rw [Int.natAbs_tmod]; rfl
  have hd := Int.mul_tdiv_add_tmod n 10
  by_cases hn : n < 0
  · have e : Int.tmod n 10 = -((n.natAbs % 10 : Nat) : Int) := by
      have : Int.tmod n 10 = -(Int.tmod (-n) 10) := by rw [Int.neg_tmod, Int.neg_neg]
      rw [this, Int.tmod_eq_emod_of_nonneg (by omega)]
      omega
    have w : wrap64 (-(-((n.natAbs % 10 : Nat) : Int))) = ((n.natAbs % 10 : Nat) : Int) := by unfold wrap64; omega
    rw [e, w]
    by_cases hz : -((n.natAbs % 10 : Nat) : Int) < 0
    · rw [if_pos hz]
    · rw [if_neg hz]
      have : ((n.natAbs % 10 : Nat) : Int) = 0 := by omega
      rw [this]
      rfl
  · have e : Int.tmod n 10 = ((n.natAbs % 10 : Nat) : Int) := by
      rw [Int.tmod_eq_emod_of_nonneg (by omega)]
      omega
    rw [e, if_neg (by omega)]
theorem refdec_j0 (n : Int) (k c : Nat) (hc : c < 10) : chequerref01_Decimal.j0 (k + 1) n (c : Int) = chequerref01_Decimal.j1 k n (strOfNums [((48 + c : Nat) : Int)]) (decide (n.natAbs < 10)) := by
  simp only [chequerref01_Decimal.j0]
  have w : (wrap64 (48 + (c : Int))) % 256 = ((48 + c : Nat) : Int) := by unfold wrap64; omega
  rw [w, Option.bind_some]
  by_cases h : n > -10
  · rw [if_pos h]
    have : (n < 10) ↔ n.natAbs < 10 := by omega
    rw [decide_eq_decide.2 this]
  · rw [if_neg h]
    have : ¬ n.natAbs < 10 := by omega
    rw [decide_eq_false this]
theorem refdec_is : ∀ (d : Nat) (n : Int) (k : Nat), n.natAbs < 10 ^ (d + 1) → d ≤ 30 → -9223372036854775808 ≤ n → n ≤ 9223372036854775807 → 4 * d + 4 < k → chequerref01_Decimal.f k n = some (strOfNums (num_decL n)) := by
  intro d
  induction d with
  | zero =>
    intro n k hd _ h0 h1 hk
    obtain ⟨k, rfl⟩ : ∃ m, k = m + 3 := ⟨k - 3, by omega⟩
    have hd' : n.natAbs < 10 := by simpa using hd
    have hR := decR_small n.natAbs hd'
    rw [refdec_start n _ h0 h1, refdec_j0 n _ _ (Nat.mod_lt _ (by decide)), decide_eq_true hd']
    simp only [chequerref01_Decimal.j1]
    rw [if_pos trivial, Nat.mod_eq_of_lt hd']
    unfold num_decL
    rw [hR]
    by_cases hn : n < 0
    · rw [if_pos hn, if_pos hn, strOfNums_size, if_pos (by simp)]
      have : ([((48 + n.natAbs : Nat) : Int)] ++ [45]).reverse = [45] ++ [((48 + n.natAbs : Nat) : Int)] := rfl
      rw [this, strOfNums_app]
      rfl
    · rw [if_neg hn, if_neg hn]
      rfl
  | succ d ih =>
    intro n k hd hd30 h0 h1 hk
    obtain ⟨k, rfl⟩ : ∃ m, k = m + 3 := ⟨k - 3, by omega⟩
    by_cases hs : n.natAbs < 10
    · exact ih n (k + 3) (by rw [Nat.pow_succ]; have := Nat.pow_pos (n := d) (show 0 < 10 by decide); omega) (by omega) h0 h1 (by omega)
    · rw [refdec_start n _ h0 h1, refdec_j0 n _ _ (Nat.mod_lt _ (by decide)), decide_eq_false hs]
      simp only [chequerref01_Decimal.j1]
      have e1 : (Int.tdiv n 10).natAbs = n.natAbs / 10 := by rw [Int.natAbs_tdiv]; rfl
      have b : (Int.tdiv n 10).natAbs < 10 ^ (d + 1) := by rw [e1]; rw [Nat.pow_succ] at hd; omega
      have w : wrap64 (Int.tdiv n 10) = Int.tdiv n 10 := by unfold wrap64; omega
      have hlen : (num_decL (Int.tdiv n 10)).length ≤ 40 := by
        unfold num_decL
        rw [List.length_reverse, List.length_append]
        have := decR_len d _ b
        split <;> simp only [List.length_cons, List.length_nil] <;> omega
      rw [if_neg (by decide), w, ih (Int.tdiv n 10) k b (by omega) (by omega) (by omega) (by omega), Option.bind_some, strOfNums_size, strOfNums_size, if_pos (by simp; omega), decL_step n hs, strOfNums_app]
end Go.Proofs.Ytkkcjhnhbddooaa.Q
