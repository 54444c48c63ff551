/- Which matrices may be: both texts answer the same. -/
import Derived.Test.YtidpaaemfiopkaaQ6
import Derived.Test.YtidpaaemfiopkaaQ9
namespace Go.Proofs.Ytidpaaemfiopkaa.Q
open Go.RowKit Go.Proofs.YtidpaaemfiopkaaW.PrintWords Go.Proofs.YtidpaaemfiopkaaW.PrintLast
set_option linter.unusedVariables false
theorem wz (n : Int) (h0 : -9223372036854775808 ≤ n) (h1 : n ≤ 9223372036854775807) : wrap64 n = n := by unfold wrap64; omega
def sizedP (w h : Int) : Bool := decide ((1 ≤ w ∧ w ≤ 4096) ∧ (1 ≤ h ∧ h ≤ 65536) ∧ w * h ≤ 16777216)
theorem mul_range (w h : Int) (hw : 1 ≤ w ∧ w ≤ 4096) (hh : 1 ≤ h ∧ h ≤ 65536) : 1 ≤ w * h ∧ w * h ≤ 268435456 := by
  have a : 1 * 1 ≤ w * h := Int.mul_le_mul hw.1 hh.1 (by omega) (by omega)
  have b : w * h ≤ 4096 * 65536 := Int.mul_le_mul hw.2 hh.2 (by omega) (by omega)
  omega
theorem sized_is (w h : Int) : rect_sized.f w h = some (sizedP w h) := by
  unfold rect_sized.f sizedP
  by_cases h1 : w ≥ 1
  · rw [if_pos h1]
    by_cases h2 : w ≤ 4096
    · rw [if_pos h2]
      by_cases h3 : h ≥ 1
      · rw [if_pos h3]
        by_cases h4 : h ≤ 65536
        · obtain ⟨a, b⟩ := mul_range w h ⟨h1, h2⟩ ⟨h3, h4⟩
          rw [if_pos h4, wz _ (by omega) (by omega)]
          congr 1
          apply decide_eq_decide.2
          exact ⟨fun x => ⟨⟨h1, h2⟩, ⟨h3, h4⟩, x⟩, fun x => x.2.2⟩
        · rw [if_neg h4, decide_eq_false (fun x => h4 x.2.1.2)]
      · rw [if_neg h3, decide_eq_false (fun x => h3 x.2.1.1)]
    · rw [if_neg h2, decide_eq_false (fun x => h2 x.1.2)]
  · rw [if_neg h1, decide_eq_false (fun x => h1 x.1.1)]
theorem refsized_is (w h : Int) : chequerref03_Sized.f w h = some (sizedP w h) := by
  unfold chequerref03_Sized.f sizedP
  by_cases h1 : w < 1
  · rw [if_pos h1, decide_eq_false (fun x => by have := x.1; omega)]
  · rw [if_neg h1]
    by_cases h2 : w > 4096
    · rw [if_pos h2, decide_eq_false (fun x => by have := x.1; omega)]
    · rw [if_neg h2]
      by_cases h3 : h < 1
      · rw [if_pos h3, decide_eq_false (fun x => by have := x.2.1; omega)]
      · rw [if_neg h3]
        by_cases h4 : h > 65536
        · rw [if_pos h4, decide_eq_false (fun x => by have := x.2.1; omega)]
        · obtain ⟨a, b⟩ := mul_range w h ⟨by omega, by omega⟩ ⟨by omega, by omega⟩
          rw [if_neg h4, wz _ (by omega) (by omega)]
          congr 1
          apply decide_eq_decide.2
          exact ⟨fun x => ⟨⟨by omega, by omega⟩, ⟨by omega, by omega⟩, x⟩, fun x => x.2.2⟩
def mayP (w h : Int) (l : List Int) : Bool := sizedP w h && decide ((l.length : Int) = w * h)
theorem sizedP_of {w h : Int} (e : sizedP w h = true) : (1 ≤ w ∧ w ≤ 4096) ∧ (1 ≤ h ∧ h ≤ 65536) ∧ w * h ≤ 16777216 := of_decide_eq_true e
theorem beq_dec (a b : Int) : (a == b) = decide (a = b) := by by_cases h : a = b <;> simp [h]
theorem may_is (w h : Int) (l : List Int) : rect_May.f w h l = some (mayP w h l) := by
  unfold rect_May.f mayP
  rw [sized_is, Option.bind_some]
  cases e : sizedP w h with
  | false => rfl
  | true =>
    obtain ⟨a, b, c⟩ := sizedP_of e
    obtain ⟨p, q⟩ := mul_range w h a b
    rw [if_pos rfl, wz _ (by omega) (by omega), beq_dec, Bool.true_and]
theorem refmayM_is (w h : Int) (l : List Int) : chequerref03_May.f w h l = some (mayP w h l) := by
  unfold chequerref03_May.f mayP
  rw [refsized_is, Option.bind_some]
  cases e : sizedP w h with
  | false => rfl
  | true =>
    obtain ⟨a, b, c⟩ := sizedP_of e
    obtain ⟨p, q⟩ := mul_range w h a b
    rw [if_pos rfl, wz _ (by omega) (by omega), beq_dec, Bool.true_and]
end Go.Proofs.Ytidpaaemfiopkaa.Q
