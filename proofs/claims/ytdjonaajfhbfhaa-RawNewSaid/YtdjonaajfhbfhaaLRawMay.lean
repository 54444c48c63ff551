/- Heads of rasters of bytes: both texts answer the same. -/
import Derived.Test.YtdjonaajfhbfhaaLAround
import Derived.Test.YtdjonaajfhbfhaaLHead
import Derived.Test.YtdjonaajfhbfhaaQ1
import Derived.Test.YtdjonaajfhbfhaaQ12
import Derived.Test.YtdjonaajfhbfhaaQ2
import Derived.Test.YtdjonaajfhbfhaaQ20
import Derived.Test.YtdjonaajfhbfhaaQ3
import Derived.Test.YtdjonaajfhbfhaaQ9
namespace Go.Proofs.Ytdjonaajfhbfhaa.Q
open Go.RowKit Go.Proofs.YtdjonaajfhbfhaaW.PrintWords Go.Proofs.YtdjonaajfhbfhaaW.PrintLast
set_option linter.unusedVariables false
theorem refrawmay_is (k w h m : Int) : chequerref09_May.f k w h m = some (rawMay k w h m) := by
  unfold chequerref09_May.f chequerref06_May.f rawMay chequerref06_bits.f
  by_cases c1 : k < 1
  · rw [if_pos c1, Option.bind_some, if_neg (by decide), decide_eq_false (by omega)]
  rw [if_neg c1]
  by_cases c2 : k > 6
  · rw [if_pos c2, Option.bind_some, if_neg (by decide), decide_eq_false (by omega)]
  rw [if_neg c2]
  by_cases c3 : w < 1
  · rw [if_pos c3, Option.bind_some, if_neg (by decide), decide_eq_false (by omega)]
  rw [if_neg c3]
  by_cases c4 : w > 4096
  · rw [if_pos c4, Option.bind_some, if_neg (by decide), decide_eq_false (by omega)]
  rw [if_neg c4]
  by_cases c5 : h < 1
  · rw [if_pos c5, Option.bind_some, if_neg (by decide), decide_eq_false (by omega)]
  rw [if_neg c5]
  by_cases c6 : h > 65536
  · rw [if_pos c6, Option.bind_some, if_neg (by decide), decide_eq_false (by omega)]
  rw [if_neg c6]
  by_cases c7 : m < 1
  · rw [if_pos c7, Option.bind_some, if_neg (by decide), decide_eq_false (by omega)]
  rw [if_neg c7]
  by_cases c8 : m > 65535
  · rw [if_pos c8, Option.bind_some, if_neg (by decide), decide_eq_false (by omega)]
  rw [if_neg c8]
  by_cases c9 : m = 1
  · rw [if_pos c9, Option.bind_some, if_pos rfl]
    congr 1
    rw [decide_eq_decide]
    omega
  rw [if_neg c9]
  by_cases ca : k = 1
  · rw [if_pos ca, Option.bind_some, Option.bind_some, if_neg (by decide), decide_eq_false (by omega)]
  rw [if_neg ca, Option.bind_some, Option.bind_some]
  by_cases cb : k = 4
  · rw [if_neg (by simp [cb]), decide_eq_false (by omega)]
  · have e : (k == 4) = false := beq_eq_false_iff_ne.2 cb
    rw [e, if_pos (by decide)]
    congr 1
    rw [decide_eq_decide]
    omega
theorem refsize_is {k w h m : Int} (e : rawMay k w h m = true) : chequerref06_Size.f k w h m = some ((rawS k w m : Nat) * h) := by
  have h1 := rawMay_is e
  have hsb := rawS_bound e
  have w64 : ∀ x : Int, 0 ≤ x → x ≤ 1610612736 → wrap64 x = x := fun x a b => by unfold wrap64; omega
  have hp : ∀ a b : Int, 0 ≤ a → a ≤ 24576 → 0 ≤ b → b ≤ 65536 → 0 ≤ a * b ∧ a * b ≤ 1610612736 := fun a b a0 a1 b0 b1 => ⟨Int.mul_nonneg a0 b0, by
    have := Int.mul_le_mul a1 b1 b0 (by omega)
    omega⟩
  unfold chequerref06_Size.f
  rw [if_neg (by omega)]
  unfold rawS sampW
  by_cases h4 : k = 4
  · rw [if_pos h4, if_pos h4]
    rw [Int.tmod_eq_emod_of_nonneg (by omega), Int.tdiv_eq_ediv_of_nonneg (by omega), w64 (w / 8) (by omega) (by omega)]
    by_cases hz : w % 8 > 0
    · rw [if_pos hz, w64 (w / 8 + 1) (by omega) (by omega)]
      have := hp (w / 8 + 1) h (by omega) (by omega) (by omega) (by omega)
      rw [w64 _ this.1 this.2]
      congr 2
      omega
    · rw [if_neg hz]
      have := hp (w / 8) h (by omega) (by omega) (by omega) (by omega)
      rw [w64 _ this.1 this.2]
      congr 2
      omega
  · rw [if_neg h4, if_neg h4]
    have q0 := hp w h (by omega) (by omega) (by omega) (by omega)
    have q3 := hp (3 * w) h (by omega) (by omega) (by omega) (by omega)
    have q2 := hp (2 * w) h (by omega) (by omega) (by omega) (by omega)
    have q6 := hp (6 * w) h (by omega) (by omega) (by omega) (by omega)
    have e3 : 3 * (w * h) = 3 * w * h := (Int.mul_assoc 3 w h).symm
    have e2 : 2 * (w * h) = 2 * w * h := (Int.mul_assoc 2 w h).symm
    have e6 : 2 * (3 * w * h) = 6 * w * h := by rw [← Int.mul_assoc, ← Int.mul_assoc]; rfl
    by_cases h6 : k = 6
    · rw [if_pos h6, if_pos h6, w64 (w * h) q0.1 q0.2, e3, w64 (3 * w * h) q3.1 q3.2]
      by_cases hm : m ≤ 255
      · rw [if_neg (by omega), if_pos hm]
        congr 2
        omega
      · rw [if_pos (by omega), if_neg hm, e6, w64 _ q6.1 q6.2]
        congr 2
        omega
    · rw [if_neg h6, if_neg h6, w64 (w * h) q0.1 q0.2]
      by_cases hm : m ≤ 255
      · rw [if_neg (by omega), if_pos hm]
        congr 2
        omega
      · rw [if_pos (by omega), if_neg hm, e2, w64 _ q2.1 q2.2]
        congr 2
        omega
theorem refstride_is {k w h m : Int} (e : rawMay k w h m = true) : chequerref09_Stride.f k w h m = some ((rawS k w m : Nat) : Int) := by
  have h1 := rawMay_is e
  have hsb := rawS_bound e
  unfold chequerref09_Stride.f
  rw [if_neg (by omega), refsize_is e, Option.bind_some, if_neg (by omega), Int.mul_tdiv_cancel _ (by omega)]
  congr 1
  unfold wrap64
  omega
theorem refhead_is (a b c d most : Int) (ha : -9223372036854775808 ≤ a ∧ a ≤ 9223372036854775807) (hb : -9223372036854775808 ≤ b ∧ b ≤ 9223372036854775807) (hc : -9223372036854775808 ≤ c ∧ c ≤ 9223372036854775807) (hd : -9223372036854775808 ≤ d ∧ d ≤ 9223372036854775807) (h0 : 1 ≤ most) (h1 : most ≤ 4096) :
    ∃ k w h m, chequerref09_Head.f a b c d most = some (k, w, h, m) ∧ rawMay k w h m = true ∧ w ≤ most ∧ h ≤ most := by
  have r1 := aroundZ_range a 6 (by omega)
  have r2 := aroundZ_range b most (by omega)
  have r3 := aroundZ_range c most (by omega)
  have r4 := aroundZ_range d 65535 (by omega)
  unfold chequerref09_Head.f chequerref06_Good.f
  rw [around_is a 6 ha.1 ha.2 (by omega), around_is b most hb.1 hb.2 (by omega), around_is c most hc.1 hc.2 (by omega), around_is d 65535 hd.1 hd.2 (by omega)]
  generalize aroundZ a 6 = x at *
  generalize aroundZ b most = y at *
  generalize aroundZ c most = z at *
  generalize aroundZ d 65535 = v at *
  simp only [Option.bind_some, chequerref06_bits.f]
  rw [wr_id (1 + x) (by omega) (by omega), wr_id (1 + y) (by omega) (by omega), wr_id (1 + z) (by omega) (by omega), wr_id (1 + v) (by omega) (by omega)]
  have w3 : wrap64 (1 + x + 3) = x + 4 := by unfold wrap64; omega
  by_cases g1 : 1 + x = 1
  · rw [if_pos g1, Option.bind_some, if_pos rfl, Option.bind_some, if_pos (by show 1 + x < 4; omega), w3]
    exact ⟨x + 4, 1 + y, 1 + z, 1, rfl, decide_eq_true (by omega), by omega, by omega⟩
  · rw [if_neg g1, Option.bind_some]
    by_cases g4 : 1 + x = 4
    · have e : (1 + x == 4) = true := beq_iff_eq.2 g4
      rw [e, if_pos rfl, Option.bind_some, if_neg (by show ¬ 1 + x < 4; omega)]
      exact ⟨1 + x, 1 + y, 1 + z, 1, rfl, decide_eq_true (by omega), by omega, by omega⟩
    · have e : (1 + x == 4) = false := beq_eq_false_iff_ne.2 g4
      rw [e, if_neg (by decide), Option.bind_some]
      by_cases g5 : 1 + x < 4
      · rw [if_pos g5, w3]
        exact ⟨x + 4, 1 + y, 1 + z, 1 + v, rfl, decide_eq_true (by omega), by omega, by omega⟩
      · rw [if_neg g5]
        exact ⟨1 + x, 1 + y, 1 + z, 1 + v, rfl, decide_eq_true (by omega), by omega, by omega⟩
end Go.Proofs.Ytdjonaajfhbfhaa.Q
