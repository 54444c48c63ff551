/- The number that bytes begin with, or its error, is the document's: for any bytes, and such of which the first ones have 128 more. No condition. -/
import Derived.Test.YtkkcjhnhbddooaaLAround
import Derived.Test.YtkkcjhnhbddooaaLGet
import Derived.Test.YtkkcjhnhbddooaaLLives02
import Derived.Test.YtkkcjhnhbddooaaQ5
namespace Go.Proofs.Ytkkcjhnhbddooaa.Pure
open Go.RowKit Go.Proofs.Ytkkcjhnhbddooaa.Q Go.Proofs.YtkkcjhnhbddooaaW.PrintWords Go.Proofs.YtkkcjhnhbddooaaW.PrintLast
theorem numGets_l1 (A B : List Int) (hA : A.length ≤ 12) (hB : B.length ≤ 12) (bA : ∀ x ∈ A, 0 ≤ x ∧ x ≤ 255) (bB : ∀ x ∈ B, 0 ≤ x ∧ x ≤ 255) (k : Nat) (hk : 5000 ≤ k) : chequerlaw02_NumGets.l1 k [A, B] 0 = some true := by
  obtain ⟨k, rfl⟩ : ∃ m, k = m + 3 := ⟨k - 3, by omega⟩
  have w0 : wrap64 (0 + 1) = 1 := by unfold wrap64; omega
  have w1 : wrap64 (1 + 1) = 2 := by unfold wrap64; omega
  have r0 : rd_L1 [A, B] 0 = A := rfl
  have r1 : rd_L1 [A, B] 1 = B := rfl
  simp only [chequerlaw02_NumGets.l1]
  rw [w0, w1, r0, r1]
  rw [if_pos (by omega), if_pos (by omega), if_pos (show (0 : Int) < (([A, B].length : Nat) : Int) by simp)]
  rw [get_is A (by omega) bA _ (by omega), refget_is A (by omega) bA _ (by omega), Option.bind_some, Option.bind_some, if_pos rfl, if_pos rfl, if_pos rfl]
  rw [if_pos (by omega), if_pos (by omega), if_pos (show (1 : Int) < (([A, B].length : Nat) : Int) by simp)]
  rw [get_is B (by omega) bB _ (by omega), refget_is B (by omega) bB _ (by omega), Option.bind_some, Option.bind_some, if_pos rfl, if_pos rfl, if_pos rfl]
  rw [if_neg (by omega), lives02]
  rfl
theorem numGets_l0 (A : List Int) (hA : A.length ≤ 12) (bA : ∀ x ∈ A, 0 ≤ x ∧ x ≤ 255) (t : Int) : ∀ (d i k : Nat) (B : List Int), A.length - i ≤ d → i ≤ A.length → B.length = i → (∀ x ∈ B, 0 ≤ x ∧ x ≤ 255) → 5000 + d < k → chequerlaw02_NumGets.l0 k A B t (i : Int) = some true := by
  intro d
  induction d with
  | zero =>
    intro i k B hd hi hB bB hk
    obtain ⟨k, rfl⟩ : ∃ m, k = m + 1 := ⟨k - 1, by omega⟩
    simp only [chequerlaw02_NumGets.l0]
    rw [if_neg (by omega)]
    exact numGets_l1 A B hA (by omega) bA bB k (by omega)
  | succ d ih =>
    intro i k B hd hi hB bB hk
    obtain ⟨k, rfl⟩ : ∃ m, k = m + 1 := ⟨k - 1, by omega⟩
    by_cases hlt : i < A.length
    · obtain ⟨c0, c1⟩ : 0 ≤ rd A (i : Int) ∧ rd A (i : Int) ≤ 255 := by
        have hrd : rd A (i : Int) = A[i] := by unfold rd; rw [Int.toNat_natCast, List.getD_eq_getElem?_getD, List.getElem?_eq_getElem hlt]; rfl
        rw [hrd]
        exact bA _ (List.getElem_mem hlt)
      simp only [chequerlaw02_NumGets.l0]
      have hw : wrap64 ((i : Int) + 1) = ((i + 1 : Nat) : Int) := by unfold wrap64; omega
      generalize rd A (i : Int) = c at *
      have key : ∀ c' : Int, 0 ≤ c' → c' ≤ 255 → chequerlaw02_NumGets.l0 k A (B ++ [c']) t (wrap64 ((i : Int) + 1)) = some true := by
        intro c' p q
        rw [hw]
        refine ih (i + 1) k _ (by omega) (by omega) (by simp [hB]) ?_ (by omega)
        intro x hx
        rcases List.mem_append.1 hx with h | h
        · exact bB x h
        · rw [List.mem_singleton.1 h]; exact ⟨p, q⟩
      have kb := key ((c + 128) % 256) (by omega) (by omega)
      have kc := key c c0 c1
      have hl : B.length < 140737488355328 := by omega
      rw [kb, kc, if_pos (by omega), if_pos (by omega), if_pos hl]
      simp
    · simp only [chequerlaw02_NumGets.l0]
      rw [if_neg (by omega)]
      exact numGets_l1 A B hA (by omega) bA bB k (by omega)
theorem NumGets : chequerlaw02_NumGets.Pure := by
  intro l0 a1 h1 h1' h2 h0
  obtain ⟨h0, h0'⟩ := wf_i64 h0
  refine ⟨6000, ?_⟩
  unfold chequerlaw02_NumGets.f
  have hmn : mn (l0.length : Int) 12 = ((min l0.length 12 : Nat) : Int) := by unfold mn; split <;> omega
  have hr : (l0.take (min l0.length 12)).length ≤ 12 := by rw [List.length_take]; omega
  rw [hmn, Int.toNat_natCast, around_is a1 11 h0 h0' (by omega), if_pos (by omega), if_pos (by omega), Option.bind_some]
  exact numGets_l0 _ hr (fun x hx => wf_u8 (h2 x (List.mem_of_mem_take hx))) _ 12 0 6000 [] (by omega) (by omega) rfl (by simp) (by omega)
end Go.Proofs.Ytkkcjhnhbddooaa.Pure
