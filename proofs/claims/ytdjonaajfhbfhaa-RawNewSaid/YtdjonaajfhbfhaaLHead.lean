/- A head that may be. -/
import Derived.Test.YtdjonaajfhbfhaaLAround
import Derived.Test.YtdjonaajfhbfhaaQ1
import Derived.Test.YtdjonaajfhbfhaaQ2
import Derived.Test.YtdjonaajfhbfhaaLAround
namespace Go.Proofs.Ytdjonaajfhbfhaa.Q
open Go.RowKit Go.Proofs.YtdjonaajfhbfhaaW.PrintWords Go.Proofs.YtdjonaajfhbfhaaW.PrintLast
set_option linter.unusedVariables false
theorem wr_id (n : Int) (h0 : -9223372036854775808 ≤ n) (h1 : n ≤ 9223372036854775807) : wrap64 n = n := by unfold wrap64; omega
def HdOk (k w h m : Int) : Prop := 1 ≤ k ∧ k ≤ 6 ∧ 1 ≤ w ∧ w ≤ 4096 ∧ 1 ≤ h ∧ h ≤ 4096 ∧ 1 ≤ m ∧ m ≤ 65535 ∧ ((k = 1 ∨ k = 4) → m = 1)
theorem good_is (a b c d : Int) (ha : -9223372036854775808 ≤ a ∧ a ≤ 9223372036854775807) (hb : -9223372036854775808 ≤ b ∧ b ≤ 9223372036854775807) (hc : -9223372036854775808 ≤ c ∧ c ≤ 9223372036854775807) (hd : -9223372036854775808 ≤ d ∧ d ≤ 9223372036854775807) : ∃ k w h m, chequerref06_Good.f a b c d 4096 = some (k, w, h, m) ∧ HdOk k w h m := by
  have r1 := aroundZ_range a 6 (by omega)
  have r2 := aroundZ_range b 4096 (by omega)
  have r3 := aroundZ_range c 4096 (by omega)
  have r4 := aroundZ_range d 65535 (by omega)
  unfold chequerref06_Good.f
  rw [around_is a 6 ha.1 ha.2 (by omega), around_is b 4096 hb.1 hb.2 (by omega), around_is c 4096 hc.1 hc.2 (by omega), around_is d 65535 hd.1 hd.2 (by omega)]
  generalize aroundZ a 6 = x at *
  generalize aroundZ b 4096 = y at *
  generalize aroundZ c 4096 = z at *
  generalize aroundZ d 65535 = v at *
  simp only [Option.bind_some, chequerref06_bits.f]
  rw [wr_id (1 + x) (by omega) (by omega), wr_id (1 + y) (by omega) (by omega), wr_id (1 + z) (by omega) (by omega), wr_id (1 + v) (by omega) (by omega)]
  by_cases h1 : 1 + x = 1
  · exact ⟨_, _, _, _, by simp [h1]; exact ⟨rfl, rfl, rfl, rfl⟩, by unfold HdOk; omega⟩
  · by_cases h4 : 1 + x = 4
    · exact ⟨_, _, _, _, by simp [h4]; exact ⟨rfl, rfl, rfl, rfl⟩, by unfold HdOk; omega⟩
    · refine ⟨1 + x, 1 + y, 1 + z, 1 + v, ?_, by unfold HdOk; omega⟩
      have e : (1 + x == 4) = false := beq_eq_false_iff_ne.2 h4
      rw [if_neg h1, e]
      rfl
end Go.Proofs.Ytdjonaajfhbfhaa.Q
