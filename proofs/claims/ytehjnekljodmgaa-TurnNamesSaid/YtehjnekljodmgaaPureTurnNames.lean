/- Turns' names are no two the same, and tell quarters and mirror: for any number. No condition. -/
import Derived.Test.YtehjnekljodmgaaLLives04
import Derived.Test.YtehjnekljodmgaaQ1
import Derived.Test.YtehjnekljodmgaaQ4
import Derived.Test.YtehjnekljodmgaaQ5
namespace Go.Proofs.Ytehjnekljodmgaa.Pure
open Go.RowKit Go.Proofs.Ytehjnekljodmgaa.Q Go.Proofs.YtehjnekljodmgaaW.PrintWords Go.Proofs.YtehjnekljodmgaaW.PrintLast
def names8 : List ByteArray := [(⟨#[114, 48]⟩ : ByteArray), (⟨#[114, 49]⟩ : ByteArray), (⟨#[114, 50]⟩ : ByteArray), (⟨#[114, 51]⟩ : ByteArray), (⟨#[115, 48]⟩ : ByteArray), (⟨#[115, 49]⟩ : ByteArray), (⟨#[115, 50]⟩ : ByteArray), (⟨#[115, 51]⟩ : ByteArray)]
def nameAt (i : Int) : ByteArray := (turn_Name.f i).getD ByteArray.empty
theorem name_tab : ∀ i : Fin 8, (turn_Name.f ((i : Nat) : Int)).isSome = true ∧ (nameAt ((i : Nat) : Int)).toList = (rdOf ByteArray.empty names8 ((i : Nat) : Int)).toList ∧ ((nameAt ((i : Nat) : Int)).toList != ([] : List UInt8)) = true := by decide +kernel
theorem name_is (i : Nat) (h : i < 8) : turn_Name.f (i : Int) = some (nameAt (i : Int)) := by
  obtain ⟨h1, _⟩ := name_tab ⟨i, h⟩
  obtain ⟨x, hx⟩ := Option.isSome_iff_exists.1 h1
  unfold nameAt
  have hx' : turn_Name.f (i : Int) = some x := hx
  rw [hx']
  rfl
theorem may4_is (n : Int) : turn_May.f n = some (decide (0 ≤ n ∧ n < 8)) := by
  unfold turn_May.f
  by_cases h : n ≥ 0
  · rw [if_pos h]
    congr 1
    apply decide_eq_decide.2
    omega
  · rw [if_neg h, decide_eq_false (by omega)]
theorem name_out (n : Int) (h : ¬ (0 ≤ n ∧ n < 8)) : turn_Name.f n = some (⟨#[]⟩ : ByteArray) := by
  unfold turn_Name.f
  rw [may4_is, decide_eq_false h, Option.bind_some, if_neg (by decide)]
theorem names_step (k : Nat) (n : Int) (i : Nat) (h : i < 8) : chequerlaw04_TurnNames.l0 (k + 1) n names8 (i : Int) = chequerlaw04_TurnNames.l0 k n names8 ((i + 1 : Nat) : Int) := by
  obtain ⟨_, h2, _⟩ := name_tab ⟨i, h⟩
  have w1 : wrap64 ((i : Int) + 1) = ((i + 1 : Nat) : Int) := by clear h2; unfold wrap64; omega
  rw [chequerlaw04_TurnNames.l0, if_pos (by omega), name_is i h, Option.bind_some, if_pos (by omega), if_pos (by show (i : Int) < ((8 : Nat) : Int); omega), if_pos h2, may4_is, Option.bind_some, if_pos (decide_eq_true ⟨by omega, by omega⟩), w1]
theorem names_end (n : Int) (k : Nat) (hk : 100 ≤ k) : chequerlaw04_TurnNames.j1 k n (decide (0 ≤ n ∧ n < 8)) = some true := by
  obtain ⟨k, rfl⟩ : ∃ m, k = m + 1 := ⟨k - 1, by omega⟩
  have hb : (turn_Name.f n).bind (fun t => some (t.toList != ([] : List UInt8))) = some (decide (0 ≤ n ∧ n < 8)) := by
    by_cases h : 0 ≤ n ∧ n < 8
    · obtain ⟨i, rfl⟩ : ∃ i : Nat, n = (i : Int) := ⟨n.toNat, by omega⟩
      obtain ⟨_, _, h3⟩ := name_tab ⟨i, by omega⟩
      rw [name_is i (by omega), decide_eq_true h, Option.bind_some]
      exact congrArg some h3
    · rw [name_out n h, decide_eq_false h, Option.bind_some, show ((⟨#[]⟩ : ByteArray)).toList = [] from by decide +kernel]
      rfl
  rw [chequerlaw04_TurnNames.j1]
  obtain ⟨x, hx, hx2⟩ := Option.bind_eq_some_iff.1 hb
  have hx3 := Option.some.inj hx2
  rw [hx, Option.bind_some, hx3, may4_is, Option.bind_some, name_out (-1) (by omega), Option.bind_some, name_out 8 (by omega), Option.bind_some, may4_is, Option.bind_some, lives04 k (by omega)]
  simp
theorem TurnNames : chequerlaw04_TurnNames.Pure := by
  intro n h
  refine ⟨200, ?_⟩
  show chequerlaw04_TurnNames.l0 200 n names8 ((0 : Nat) : Int) = some true
  rw [names_step 199 n 0 (by omega), names_step 198 n 1 (by omega), names_step 197 n 2 (by omega), names_step 196 n 3 (by omega), names_step 195 n 4 (by omega), names_step 194 n 5 (by omega), names_step 193 n 6 (by omega), names_step 192 n 7 (by omega), chequerlaw04_TurnNames.l0, if_neg (by decide)]
  by_cases h0 : n ≥ 0
  · rw [if_pos h0]
    have e := names_end n 191 (by omega)
    rw [show decide (0 ≤ n ∧ n < 8) = decide (n < 8) from decide_eq_decide.2 (by omega)] at e
    exact e
  · rw [if_neg h0]
    have e := names_end n 191 (by omega)
    rw [decide_eq_false (by omega)] at e
    exact e
end Go.Proofs.Ytehjnekljodmgaa.Pure
