/- A number's bytes: both texts answer the same. -/
import Derived.Test.YtkkcjhnhbddooaaInum_Put
import Derived.Test.YtkkcjhnhbddooaaQ3
namespace Go.Proofs.Ytkkcjhnhbddooaa.Q
open Go.RowKit Go.Proofs.YtkkcjhnhbddooaaW.PrintWords Go.Proofs.YtkkcjhnhbddooaaW.PrintLast
set_option linter.unusedVariables false
theorem putL_small (u : Nat) (h : u < 128) : num_putL u = [(u : Int)] := by unfold num_putL; rw [dif_pos h]
theorem putL_big (u : Nat) (h : ¬ u < 128) : num_putL u = ((u % 128 + 128 : Nat) : Int) :: num_putL (u / 128) := by rw [num_putL, dif_neg h]
theorem putL_len : ∀ (j u : Nat), u < 128 ^ (j + 1) → (num_putL u).length ≤ j + 1 := by
  intro j
  induction j with
  | zero => intro u h; rw [putL_small u (by simpa using h)]; simp
  | succ j ih =>
    intro u h
    by_cases hs : u < 128
    · rw [putL_small u hs]; simp
    · rw [putL_big u hs, List.length_cons]
      have := ih (u / 128) (by rw [Nat.pow_succ] at h; omega)
      omega
theorem refput_go : ∀ (d u k : Nat) (acc : List Int), u < d → u ≤ 4611686018427387904 → acc.length ≤ 1000000 - d ∨ acc.length + (num_putL u).length ≤ 100 → acc.length + (num_putL u).length ≤ 100 → u < k →
    chequerref02_Put.l0 k (u : Int) acc = some (acc ++ num_putL u, 0) := by
  intro d
  induction d with
  | zero => intro u k acc h; omega
  | succ d ih =>
    intro u k acc hd hu _ hl hk
    obtain ⟨k, rfl⟩ : ∃ m, k = m + 1 := ⟨k - 1, by omega⟩
    simp only [chequerref02_Put.l0]
    by_cases hs : u < 128
    · rw [if_neg (by omega)]
      rw [putL_small u hs] at hl ⊢
      have hl2 : acc.length < 140737488355328 := by omega
      rw [if_pos hl2]
      have : (u : Int) % 256 = u := by omega
      rw [this]
    · rw [if_pos (by omega)]
      rw [putL_big u hs] at hl ⊢
      rw [List.length_cons] at hl
      have hl2 : acc.length < 140737488355328 := by omega
      rw [if_pos hl2]
      have e1 : wrap64 (Int.tdiv (u : Int) 128) = ((u / 128 : Nat) : Int) := by rw [Int.tdiv_eq_ediv_of_nonneg (by omega)]; unfold wrap64; omega
      have e2 : (wrap64 (128 + (Int.tmod (u : Int) 128))) % 256 = ((u % 128 + 128 : Nat) : Int) := by rw [Int.tmod_eq_emod_of_nonneg (by omega)]; unfold wrap64; omega
      rw [e1, e2]
      have hl3 : (acc ++ [((u % 128 + 128 : Nat) : Int)]).length + (num_putL (u / 128)).length ≤ 100 := by rw [List.length_append, List.length_singleton]; omega
      rw [ih (u / 128) k _ (by omega) (by omega) (Or.inr hl3) hl3 (by omega), List.append_assoc]
      rfl
theorem put_is (n : Int) (h0 : 0 ≤ n) (h1 : n ≤ 4611686018427387903) : num_Put.f n = some (num_putL n.toNat, 0) := by unfold num_Put.f; rw [if_neg (by omega)]
theorem refput_is (n : Int) (h0 : -9223372036854775808 ≤ n) (h1 : n ≤ 9223372036854775807) : ∃ K, ∀ k, K ≤ k → chequerref02_Put.f k n = num_Put.f n := by
  by_cases h : n < 0
  · refine ⟨1, fun k hk => ?_⟩
    obtain ⟨k, rfl⟩ : ∃ m, k = m + 1 := ⟨k - 1, by omega⟩
    unfold chequerref02_Put.f num_Put.f
    rw [if_pos h, if_pos (Or.inl h)]
    simp only [chequerref02_Put.j0]
    rw [if_pos trivial]
  · by_cases h2 : n > 4611686018427387903
    · refine ⟨1, fun k hk => ?_⟩
      obtain ⟨k, rfl⟩ : ∃ m, k = m + 1 := ⟨k - 1, by omega⟩
      unfold chequerref02_Put.f num_Put.f
      rw [if_neg h, if_pos (Or.inr h2)]
      simp only [chequerref02_Put.j0]
      rw [if_pos (by simpa using h2)]
    · obtain ⟨u, rfl⟩ := Int.eq_ofNat_of_zero_le (show 0 ≤ n by omega)
      refine ⟨u + 2, fun k hk => ?_⟩
      obtain ⟨k, rfl⟩ : ∃ m, k = m + 1 := ⟨k - 1, by omega⟩
      rw [put_is _ (by omega) (by omega)]
      unfold chequerref02_Put.f
      rw [if_neg h]
      simp only [chequerref02_Put.j0]
      rw [if_neg (by simpa using h2)]
      have hl : (num_putL u).length ≤ 9 := putL_len 8 u (by omega)
      have := refput_go (u + 1) u k [] (by omega) (by omega) (Or.inr (by simpa using by omega)) (by simpa using by omega) (by omega)
      simpa using this
theorem putL_bytes : ∀ (u : Nat), ∀ x ∈ num_putL u, 0 ≤ x ∧ x ≤ 255 := by
  intro u
  induction u using Nat.strongRecOn with
  | _ u ih =>
    by_cases hs : u < 128
    · rw [putL_small u hs]; intro x hx; rw [List.mem_singleton.1 hx]; omega
    · rw [putL_big u hs]
      intro x hx
      rcases List.mem_cons.1 hx with rfl | hx
      · omega
      · exact ih (u / 128) (by omega) x hx
end Go.Proofs.Ytkkcjhnhbddooaa.Q
