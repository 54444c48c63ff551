/- Which matrices may be is told as the document says; there are such of noughts: for any matrix, any width and height. No condition. -/
import Derived.Test.YtidpaaemfiopkaaLAround
import Derived.Test.YtidpaaemfiopkaaLLives03
import Derived.Test.YtidpaaemfiopkaaLRect
import Derived.Test.YtidpaaemfiopkaaQ2
import Derived.Test.YtidpaaemfiopkaaQ6
import Derived.Test.YtidpaaemfiopkaaQ7
namespace Go.Proofs.Ytidpaaemfiopkaa.Pure
open Go.RowKit Go.Proofs.Ytidpaaemfiopkaa.Q Go.Proofs.YtidpaaemfiopkaaW.PrintWords Go.Proofs.YtidpaaemfiopkaaW.PrintLast
theorem may_noughts (x7 x8 : List Int) (x9 : Int) (m0 m1 : Int) (m2 : List Int) (w h : Int) (n : Nat) (hn : n ≤ 16777216) (r : Option Bool) (K : Nat) (hr : ∀ q, K ≤ q → chequerlaw03_RectMay.l0 q x7 x8 (wrap64 (x9 + 1)) m0 m1 m2 = r) :
    ∀ (d i k : Nat), n - i ≤ d → i ≤ n → K + d < k → chequerlaw03_RectMay.l1 k x7 x8 x9 (i : Int) m0 m1 m2 w h (List.replicate n 0) = r := by
  intro d
  induction d with
  | zero =>
    intro i k hd hi hk
    obtain ⟨k, rfl⟩ : ∃ m, k = m + 1 := ⟨k - 1, by omega⟩
    rw [chequerlaw03_RectMay.l1, if_neg (by rw [List.length_replicate]; omega)]
    exact hr k (by omega)
  | succ d ih =>
    intro i k hd hi hk
    by_cases c : i < n
    · obtain ⟨k, rfl⟩ : ∃ m, k = m + 1 := ⟨k - 1, by omega⟩
      have w1 : wrap64 ((i : Int) + 1) = ((i + 1 : Nat) : Int) := (wz _ (by omega) (by omega)).trans (by simp)
      have hrd : rd (List.replicate n (0 : Int)) (i : Int) = 0 := by unfold rd; rw [Int.toNat_natCast, List.getD_eq_getElem?_getD, List.getElem?_replicate, if_pos c]; rfl
      rw [chequerlaw03_RectMay.l1, if_pos (by rw [List.length_replicate]; omega), if_pos (by omega), if_pos hrd, w1]
      exact ih (i + 1) k (by omega) (by omega) (by omega)
    · exact ih i k (by omega) hi (by omega)
theorem may_step (x7 x8 : List Int) (x9 : Int) (m0 m1 : Int) (m2 : List Int) (h9 : 0 ≤ x9) (h92 : x9 < 2) (h7 : x9 < (x7.length : Int)) (h8 : x9 < (x8.length : Int)) (r : Option Bool) (K : Nat) (hr : ∀ q, K ≤ q → chequerlaw03_RectMay.l0 q x7 x8 (wrap64 (x9 + 1)) m0 m1 m2 = r) (k : Nat) (hk : K + 6000 ≤ k) :
    chequerlaw03_RectMay.l0 k x7 x8 x9 m0 m1 m2 = r := by
  obtain ⟨k, rfl⟩ : ∃ m, k = m + 3 := ⟨k - 3, by omega⟩
  rw [chequerlaw03_RectMay.l0, if_pos h92, if_pos h9, if_pos h7, if_pos h8, refsized_is, Option.bind_some]
  obtain ⟨w, ew⟩ : ∃ w, rd x7 x9 = w := ⟨_, rfl⟩
  obtain ⟨h, eh⟩ : ∃ h, rd x8 x9 = h := ⟨_, rfl⟩
  rw [ew, eh]
  cases e : sizedP w h with
  | false =>
    rw [if_neg (by decide), chequerlaw03_RectMay.j1, if_neg (by decide), if_pos h9, if_pos h7, if_pos h8, ew, eh]
    unfold rect_New.f
    rw [sized_is, e, Option.bind_some, if_neg (by decide), Option.bind_some]
    dsimp only
    rw [show (((1 : Int) == 0) != false) = false from rfl, if_neg (by decide), if_neg (by decide), if_pos rfl, may_is, Option.bind_some]
    rw [show (mayP 0 0 [] != false) = false from by decide, chequerlaw03_RectMay.j2, if_neg (by decide)]
    exact may_noughts x7 x8 x9 m0 m1 m2 0 0 0 (by omega) r K hr 0 0 k (by omega) (by omega) (by omega)
  | true =>
    obtain ⟨a, b, c⟩ := sizedP_of e
    obtain ⟨p, q⟩ := mul_range w h a b
    have w1 : wrap64 (w * h) = w * h := wz _ (by omega) (by omega)
    rw [if_pos rfl, w1]
    by_cases hbig : w * h > 5000
    · rw [decide_eq_true hbig, chequerlaw03_RectMay.j1, if_pos rfl]
      exact hr _ (by omega)
    · rw [decide_eq_false hbig, chequerlaw03_RectMay.j1, if_neg (by decide), if_pos h9, if_pos h7, if_pos h8, ew, eh]
      unfold rect_New.f
      rw [sized_is, e, Option.bind_some, if_pos rfl, w1, if_pos (by omega), if_pos (by omega), Option.bind_some]
      dsimp only
      have hm : mayP w h (List.replicate (w * h).toNat 0) = true := by unfold mayP; rw [e, Bool.true_and, List.length_replicate]; exact decide_eq_true (by omega)
      rw [show (((0 : Int) == 0) != true) = false from rfl, if_neg (by decide), if_pos rfl, may_is, hm, Option.bind_some]
      rw [show (true != true) = false from rfl, chequerlaw03_RectMay.j2, if_neg (by decide)]
      exact may_noughts x7 x8 x9 m0 m1 m2 w h (w * h).toNat (by omega) r K hr (w * h).toNat 0 k (by omega) (by omega) (by omega)
theorem RectMay : chequerlaw03_RectMay.Pure := by
  intro m0 m1 m2 a b h0 h1 h2 h3 h4 h5
  refine ⟨20000, ?_⟩
  have ma := wf_i64 h4
  have mb := wf_i64 h5
  unfold chequerlaw03_RectMay.f
  rw [if_pos (by unfold mn; split <;> omega), if_pos (by unfold mn; split <;> omega), around_is a 20 ma.1 ma.2 (by omega), Option.bind_some, around_is b 20 mb.1 mb.2 (by omega), Option.bind_some]
  generalize m2.take (mn (m2.length : Int) 60).toNat = l
  have ar := aroundZ_range a 20 (by omega)
  refine may_step _ _ 0 m0 m1 l (by omega) (by omega) (by simp) (by simp) (some true) 12000 (fun q hq => ?_) 20000 (by omega)
  have w1 : wrap64 ((0 : Int) + 1) = 1 := wz _ (by omega) (by omega)
  rw [w1]
  refine may_step _ _ 1 m0 m1 l (by omega) (by omega) (by simp) (by simp) (some true) 1000 (fun q2 hq2 => ?_) q (by omega)
  have w2 : wrap64 ((1 : Int) + 1) = 2 := wz _ (by omega) (by omega)
  obtain ⟨q2, rfl⟩ : ∃ m, q2 = m + 1 := ⟨q2 - 1, by clear w1 w2; omega⟩
  rw [w2, chequerlaw03_RectMay.l0, if_neg (by decide)]
  unfold chequerlaw03_of.f
  rw [Option.bind_some]
  dsimp only
  rw [may_is, Option.bind_some, refmayM_is, Option.bind_some, if_pos (by simp), lives03 q2 (by clear w1 w2; omega)]
  rfl
end Go.Proofs.Ytidpaaemfiopkaa.Pure
