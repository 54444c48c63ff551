/- Two numbers together, and one times another one, are the document's, or told as none: for any two numbers. No condition. -/
import Derived.Test.YtkkcjhnhbddooaaInum_Mul
import Derived.Test.YtkkcjhnhbddooaaLAround
import Derived.Test.YtkkcjhnhbddooaaLChecks
import Derived.Test.YtkkcjhnhbddooaaLLives02
import Derived.Test.YtkkcjhnhbddooaaQ10
namespace Go.Proofs.Ytkkcjhnhbddooaa.Pure
open Go.RowKit Go.Proofs.Ytkkcjhnhbddooaa.Q Go.Proofs.YtkkcjhnhbddooaaW.PrintWords Go.Proofs.YtkkcjhnhbddooaaW.PrintLast
theorem numChecks_go (A B : List Int) (hA : A.length = 5) (hB : B.length = 5) (fA : ∀ i : Nat, i < 5 → num_fits (A.getD i 0)) (fB : ∀ i : Nat, i < 5 → num_fits (B.getD i 0)) : ∀ (d i k : Nat), 5 - i ≤ d → i ≤ 5 → d + 10 < k → chequerlaw02_NumChecks.l0 k A B (i : Int) = some true := by
  intro d
  induction d with
  | zero =>
    intro i k hd hi hk
    obtain ⟨k, rfl⟩ : ∃ m, k = m + 1 := ⟨k - 1, by omega⟩
    simp only [chequerlaw02_NumChecks.l0]
    rw [if_neg (by omega), lives02]
    rfl
  | succ d ih =>
    intro i k hd hi hk
    obtain ⟨k, rfl⟩ : ∃ m, k = m + 4 := ⟨k - 4, by omega⟩
    by_cases hlt : i < 5
    · have ih' := ih (i + 1) (k + 3) (by omega) (by omega) (by omega)
      have c1 : (i : Int) < 5 := by omega
      have c2 : (0 : Int) ≤ (i : Int) := by omega
      have c3 : (i : Int) < (A.length : Int) := by omega
      have c4 : (i : Int) < (B.length : Int) := by omega
      have hw : wrap64 ((i : Int) + 1) = ((i + 1 : Nat) : Int) := by clear ih' fA fB; unfold wrap64; omega
      have hfA := fA i hlt
      have hfB := fB i hlt
      have rA : rd A (i : Int) = A.getD i 0 := by unfold rd; rw [Int.toNat_natCast]
      have rB : rd B (i : Int) = B.getD i 0 := by unfold rd; rw [Int.toNat_natCast]
      rw [chequerlaw02_NumChecks.l0]
      rw [rA, rB, hw, ih']
      generalize A.getD i 0 = a at *
      generalize B.getD i 0 = b at *
      obtain ⟨r, h1, h2⟩ := add_both (k + 2) a b hfA.1 hfA.2 hfB.1 hfB.2
      have h3 := mul_both k a b hfA hfB
      have h4 : ∃ s, num_Mul.f a b = some s := by
        unfold num_Mul.f
        rw [if_pos ⟨hfA, hfB⟩]
        split <;> exact ⟨_, rfl⟩
      obtain ⟨s, h4⟩ := h4
      rw [h3, h4, h1, h2, if_pos c1, if_pos c2, if_pos c3, if_pos c4, Option.bind_some, Option.bind_some, Option.bind_some, Option.bind_some, if_pos rfl, if_neg (by simp), if_pos rfl, if_neg (by simp)]
    · simp only [chequerlaw02_NumChecks.l0]
      rw [if_neg (by omega), lives02]
      rfl
theorem NumChecks : chequerlaw02_NumChecks.Pure := by
  intro a0 a1 h0 h1
  obtain ⟨h0, h0'⟩ := wf_i64 h0
  obtain ⟨h1, h1'⟩ := wf_i64 h1
  refine ⟨100, ?_⟩
  obtain ⟨m0, m1⟩ := aroundZ_range a1 9 (by omega)
  unfold chequerlaw02_NumChecks.f
  rw [around_is a1 9 h1 h1' (by omega), Option.bind_some]
  generalize aroundZ a1 9 = m at *
  have w : wrap64 (m - 4) = m - 4 := by unfold wrap64; omega
  rw [w]
  refine numChecks_go _ _ rfl rfl ?_ ?_ 5 0 100 (by omega) (by omega) (by omega)
  · intro i hi
    unfold num_fits
    rcases (show i = 0 ∨ i = 1 ∨ i = 2 ∨ i = 3 ∨ i = 4 by omega) with rfl | rfl | rfl | rfl | rfl <;> simp <;> omega
  · intro i hi
    unfold num_fits
    rcases (show i = 0 ∨ i = 1 ∨ i = 2 ∨ i = 3 ∨ i = 4 by omega) with rfl | rfl | rfl | rfl | rfl <;> simp <;> omega
end Go.Proofs.Ytkkcjhnhbddooaa.Pure
