/- A head's format, and how many bytes its raster has, is the document's: for any head. No condition. -/
import Derived.Test.YtmimfljiighbaaaLAround
import Derived.Test.YtmimfljiighbaaaLHead
import Derived.Test.YtmimfljiighbaaaLLives06
import Derived.Test.YtmimfljiighbaaaQ18
import Derived.Test.YtmimfljiighbaaaQ24
import Derived.Test.YtmimfljiighbaaaQ25
namespace Go.Proofs.Ytmimfljiighbaaa.Pure
open Go.RowKit Go.Proofs.Ytmimfljiighbaaa.Q Go.Proofs.YtmimfljiighbaaaW.PrintWords Go.Proofs.YtmimfljiighbaaaW.PrintLast
set_option linter.unusedVariables false
set_option maxRecDepth 20000
theorem six_of {k : Int} (h1 : 1 ≤ k) (h2 : k ≤ 6) : k = 1 ∨ k = 2 ∨ k = 3 ∨ k = 4 ∨ k = 5 ∨ k = 6 := by omega
theorem format_is (k w h m : Int) (h1 : 1 ≤ k) (h2 : k ≤ 6) : ∃ a b, head_Format.f k w h m = some (a, b) ∧ chequerref06_Format.f k w h m = some (a, b) := by
  unfold head_Format.f chequerref06_Format.f
  rcases six_of h1 h2 with rfl | rfl | rfl | rfl | rfl | rfl
  all_goals exact ⟨_, _, rfl, rfl⟩
theorem raw_is (k w h m : Int) (h1 : 1 ≤ k) (h2 : k ≤ 6) : head_Raw.f k w h m = some (decide (k > 3)) := by
  unfold head_Raw.f
  rcases six_of h1 h2 with rfl | rfl | rfl | rfl | rfl | rfl
  all_goals rfl
theorem prod_le {w h : Int} (h3 : 1 ≤ w) (h4 : w ≤ 4096) (h5 : 1 ≤ h) (h6 : h ≤ 4096) : 0 ≤ w * h ∧ w * h ≤ 16777216 :=
  ⟨Int.mul_nonneg (by omega) (by omega), Int.le_trans (Int.mul_le_mul h4 h6 (by omega) (by omega)) (by decide)⟩
theorem size_is (k w h m : Int) (hk : HdOk k w h m) : ∃ n, head_Size.f k w h m = some n ∧ chequerref06_Size.f k w h m = some n := by
  obtain ⟨h1, h2, h3, h4, h5, h6, h7, h8, h9⟩ := hk
  have hp := prod_le h3 h4 h5 h6
  have e1 : wrap64 (w * h) = w * h := wr_id _ (by omega) (by omega)
  have e2 : wrap64 (2 * w) = 2 * w := wr_id _ (by omega) (by omega)
  have e3 : 2 * w * h = 2 * (w * h) := Int.mul_assoc _ _ _
  unfold head_Size.f
  rw [raw_is k w h m h1 h2, Option.bind_some]
  unfold chequerref06_Size.f head_Format.f
  rcases six_of h1 h2 with rfl | rfl | rfl | rfl | rfl | rfl
  · exact ⟨_, rfl, rfl⟩
  · exact ⟨_, rfl, rfl⟩
  · exact ⟨_, rfl, rfl⟩
  · have q0 : wrap64 (w + 7) = w + 7 := wr_id _ (by omega) (by omega)
    have q1 : Int.tdiv (w + 7) 8 = (w + 7) / 8 := Int.tdiv_eq_ediv_of_nonneg (by omega)
    have q2 : Int.tdiv w 8 = w / 8 := Int.tdiv_eq_ediv_of_nonneg (by omega)
    have q3 : Int.tmod w 8 = w % 8 := Int.tmod_eq_emod_of_nonneg (by omega)
    have q4 : wrap64 ((w + 7) / 8) = (w + 7) / 8 := wr_id _ (by omega) (by omega)
    have q5 : wrap64 (w / 8) = w / 8 := wr_id _ (by omega) (by omega)
    have q6 : wrap64 (w / 8 + 1) = w / 8 + 1 := wr_id _ (by omega) (by omega)
    have a1 : (decide ((4 : Int) > 3) = true) = True := eq_true (by decide)
    have a2 : ((4 : Int) = 4) = True := eq_true rfl
    have a3 : ((4 : Int) < 4) = False := eq_false (by decide)
    simp only [a1, a2, a3, if_true, if_false, Option.bind_some]
    rw [q0, q1, q2, q3, q4, q5, q6]
    clear a1 a2 a3
    clear q0 q1 q2 q3 q4 q5 q6 e1 e2 e3
    by_cases hr : w % 8 > 0
    · rw [if_pos hr]
      refine ⟨_, rfl, ?_⟩
      rw [show (w + 7) / 8 = w / 8 + 1 by omega, Int.mul_comm]
    · rw [if_neg hr]
      refine ⟨_, rfl, ?_⟩
      rw [show (w + 7) / 8 = w / 8 by omega, Int.mul_comm]
  · have a1 : (decide ((5 : Int) > 3) = true) = True := eq_true (by decide)
    have a2 : ((5 : Int) = 4) = False := eq_false (by decide)
    have a3 : ((5 : Int) < 4) = False := eq_false (by decide)
    have a4 : ((5 : Int) = 6) = False := eq_false (by decide)
    have a5 : (Int.tmod 5 3 = 0) = False := eq_false (by decide)
    by_cases hm : m > 255
    · simp only [a1, a2, a3, a4, a5, hm, if_true, if_false, Option.bind_some, e1, e2, e3]
      have e4 : wrap64 (2 * (w * h)) = 2 * (w * h) := wr_id _ (by omega) (by omega)
      exact ⟨_, rfl, by rw [e4, Int.mul_one, e4]⟩
    · simp only [a1, a2, a3, a4, a5, hm, if_true, if_false, Option.bind_some, e1, e2, e3]
      exact ⟨_, rfl, by rw [Int.mul_one, e1]⟩
  · have a1 : (decide ((6 : Int) > 3) = true) = True := eq_true (by decide)
    have a2 : ((6 : Int) = 4) = False := eq_false (by decide)
    have a3 : ((6 : Int) < 4) = False := eq_false (by decide)
    have a4 : ((6 : Int) = 6) = True := eq_true rfl
    have a5 : (Int.tmod 6 3 = 0) = True := eq_true (by decide)
    have e5 : wrap64 (3 * (w * h)) = 3 * (w * h) := wr_id _ (by omega) (by omega)
    by_cases hm : m > 255
    · simp only [a1, a2, a3, a4, a5, hm, if_true, if_false, Option.bind_some, e1, e2, e3]
      have e4 : wrap64 (2 * (w * h)) = 2 * (w * h) := wr_id _ (by omega) (by omega)
      exact ⟨_, rfl, by rw [e4, e5, show 2 * (3 * (w * h)) = 2 * (w * h) * 3 by omega]⟩
    · simp only [a1, a2, a3, a4, a5, hm, if_true, if_false, Option.bind_some, e1, e2, e3]
      exact ⟨_, rfl, by rw [show w * h * 3 = 3 * (w * h) from Int.mul_comm _ _, e5]⟩
theorem HeadSizes : chequerlaw06_HeadSizes.Pure := by
  intro a b c d ha hb hc hd
  obtain ⟨k, w, h, m, hg, hk⟩ := good_is a b c d (wf_i64 ha) (wf_i64 hb) (wf_i64 hc) (wf_i64 hd)
  have h1 : 1 ≤ k := hk.1
  have h2 : k ≤ 6 := hk.2.1
  obtain ⟨f1, f2, hf, hf2⟩ := format_is k w h m h1 h2
  obtain ⟨n, hn, hn2⟩ := size_is k w h m hk
  refine ⟨40, ?_⟩
  unfold chequerlaw06_HeadSizes.f
  rw [hg, Option.bind_some]
  have ho : chequerlaw06_of.f k w h m = some (k, w, h, m) := rfl
  have hl : chequerlaw06_greatest.f = some true := by decide
  simp only [ho, Option.bind_some, hf, hf2, hn, hn2, raw_is k w h m h1 h2, hl, lives06, beq_self_eq_true, Bool.and_self, if_true]
end Go.Proofs.Ytmimfljiighbaaa.Pure
