/- Formats, and whether a pixel is of one: both texts answer the same. -/
import Derived.Test.YtjpaabjhlaibfaaIpix_May
import Derived.Test.YtjpaabjhlaibfaaIpix_Unpack
import Derived.Test.YtjpaabjhlaibfaaLPix
import Derived.Test.YtjpaabjhlaibfaaLPixUn
import Derived.Test.YtjpaabjhlaibfaaQ8
import Derived.Test.YtjpaabjhlaibfaaQ9
namespace Go.Proofs.Ytjpaabjhlaibfaa.Q
open Go.RowKit Go.Proofs.YtjpaabjhlaibfaaW.PrintWords Go.Proofs.YtjpaabjhlaibfaaW.PrintLast
set_option linter.unusedVariables false
theorem pixmay_is (p : Int) (h0 : 0 ≤ p) (h1 : p ≤ 18446744073709551615) : pix_May.f p = some (decide (pixL p ≠ [])) := by unfold pix_May.f; rw [if_pos ⟨h0, h1⟩]
theorem refmay_is (p : Int) (h0 : 0 ≤ p) (h1 : p ≤ 18446744073709551615) : chequerref01_May.f p = some (decide (pixL p ≠ [])) := by
  unfold chequerref01_May.f
  rw [refunpack_is p h0 h1, Option.bind_some]
  congr 1
  apply decide_eq_decide.2
  cases pixL p with
  | nil => simp
  | cons x r => simp
theorem format_is (c m : Int) : pix_Format.f c m = some (formP c m) := by
  unfold pix_Format.f formP
  by_cases c1 : c = 1
  · rw [if_pos c1]
    by_cases h : m ≥ 1
    · rw [if_pos h]
      congr 1
      apply decide_eq_decide.2
      omega
    · rw [if_neg h, decide_eq_false (by omega)]
  · rw [if_neg c1]
    by_cases c3 : c = 3
    · rw [if_pos c3]
      by_cases h : m ≥ 1
      · rw [if_pos h]
        congr 1
        apply decide_eq_decide.2
        omega
      · rw [if_neg h, decide_eq_false (by omega)]
    · rw [if_neg c3, decide_eq_false (by omega)]
theorem refformat_is (c m : Int) : chequerref01_Format.f c m = some (formP c m) := by
  unfold chequerref01_Format.f formP
  by_cases c1 : c = 1
  · rw [if_pos c1]
    by_cases h : m > 0
    · rw [if_pos h]
      congr 1
      apply decide_eq_decide.2
      omega
    · rw [if_neg h, decide_eq_false (by omega)]
  · rw [if_neg c1]
    by_cases c3 : c = 3
    · rw [if_pos c3]
      by_cases h : m > 0
      · rw [if_pos h]
        congr 1
        apply decide_eq_decide.2
        omega
      · rw [if_neg h, decide_eq_false (by omega)]
    · rw [if_neg c3, decide_eq_false (by omega)]
/-- Whether a pixel is of a format. -/
def fitsP (p c m : Int) : Bool := formP c m && decide (((pixL p).length : Int) = c) && decide (∀ x ∈ pixL p, x ≤ m)
theorem max_1 (k : Nat) (a : Int) : slices_Max_int_int.f (k + 3) [a] = some a := by
  unfold slices_Max_int_int.f
  rw [if_neg (by simp), if_pos (by simp), slices_Max_int_int.l0, if_neg (by simp)]
  rfl
theorem max_3 (k : Nat) (a b c : Int) : slices_Max_int_int.f (k + 3) [a, b, c] = some (mx (mx a b) c) := by
  unfold slices_Max_int_int.f
  have w1 : wrap64 (1 + 1) = 2 := wz _ (by omega) (by omega)
  have w2 : wrap64 (2 + 1) = 3 := wz _ (by omega) (by omega)
  rw [if_neg (by simp), if_pos (by simp), slices_Max_int_int.l0, if_pos (by simp), if_pos (by decide), w1, slices_Max_int_int.l0, if_pos (by simp), if_pos (by decide), w2, slices_Max_int_int.l0, if_neg (by simp)]
  rfl
theorem formP_c {c m : Int} (h : formP c m = true) : c = 1 ∨ c = 3 := (of_decide_eq_true h).1
theorem fits_is (p c m : Int) (h0 : 0 ≤ p) (h1 : p ≤ 18446744073709551615) (k : Nat) (hk : 10 ≤ k) : pix_Fits.f k p c m = some (fitsP p c m) := by
  unfold pix_Fits.f fitsP
  obtain ⟨k, rfl⟩ : ∃ n, k = n + 3 := ⟨k - 3, by omega⟩
  rw [pixunpack_is p h0 h1, Option.bind_some, format_is, Option.bind_some]
  cases hf : formP c m with
  | false => rw [if_neg (by decide)]; rfl
  | true =>
    rw [if_pos rfl]
    have hc := formP_c hf
    by_cases hl : ((pixL p).length : Int) = c
    · rw [if_pos hl]
      rcases pixL_len p with h | h | h
      · omega
      · obtain ⟨a, ha⟩ := list_1 h
        rw [ha] at hl ⊢
        rw [max_1, Option.bind_some, decide_eq_true hl]
        simp
      · obtain ⟨a, b, d, ha⟩ := list_3 h
        rw [ha] at hl ⊢
        rw [max_3, Option.bind_some, decide_eq_true hl]
        simp only [Bool.true_and]
        congr 1
        apply decide_eq_decide.2
        simp
        unfold mx
        repeat' split
        all_goals omega
    · rw [if_neg hl, decide_eq_false hl]
      rfl
theorem reffits_go (p c m : Int) (x : List Int) (hx : x.length ≤ 3) : ∀ (d i k : Nat), x.length - i ≤ d → i ≤ x.length → (∀ j, j < i → x.getD j 0 ≤ m) → d < k → chequerref01_Fits.l0 k x (i : Int) c m = some (formP c m && decide ((x.length : Int) = c) && decide (∀ y ∈ x, y ≤ m)) := by
  intro d
  induction d with
  | zero =>
    intro i k hd hi h hk
    obtain ⟨k, rfl⟩ : ∃ n, k = n + 1 := ⟨k - 1, by omega⟩
    rw [chequerref01_Fits.l0, if_neg (by omega), refformat_is, Option.bind_some]
    have hall : ∀ y ∈ x, y ≤ m := by
      intro y hy
      obtain ⟨j, hj, rfl⟩ := List.mem_iff_getElem.1 hy
      have := h j (by omega)
      rwa [List.getD_eq_getElem?_getD, List.getElem?_eq_getElem hj] at this
    rw [decide_eq_true hall]
    cases formP c m with
    | false => rfl
    | true =>
      rw [if_pos rfl]
      congr 1
      rw [Bool.true_and, Bool.and_true]
      by_cases e : (x.length : Int) = c
      · rw [beq_iff_eq.2 e, decide_eq_true e]
      · rw [beq_eq_false_iff_ne.2 e, decide_eq_false e]
  | succ d ih =>
    intro i k hd hi h hk
    by_cases hlt : i < x.length
    · obtain ⟨k, rfl⟩ : ∃ n, k = n + 1 := ⟨k - 1, by omega⟩
      have q1 : x.length - (i + 1) ≤ d := by omega
      have q2 : i + 1 ≤ x.length := by omega
      have q3 : d < k := by omega
      have c1 : (i : Int) < (x.length : Int) := by omega
      have c2 : (0 : Int) ≤ (i : Int) := by omega
      have w1 : wrap64 ((i : Int) + 1) = ((i + 1 : Nat) : Int) := (wz _ (by omega) (by omega)).trans (by simp)
      have hrd : rd x (i : Int) = x.getD i 0 := by unfold rd; rw [Int.toNat_natCast]
      rw [chequerref01_Fits.l0, if_pos c1, if_pos c2, hrd, w1]
      by_cases e : x.getD i 0 > m
      · have hall : ¬ ∀ y ∈ x, y ≤ m := by
          intro ha
          rw [List.getD_eq_getElem?_getD, List.getElem?_eq_getElem hlt] at e
          have := ha _ (List.getElem_mem hlt)
          simp at e
          omega
        rw [if_pos e, decide_eq_false hall, Bool.and_false]
      · rw [if_neg e]
        exact ih (i + 1) k q1 q2 (fun j hj => by
          rcases Nat.lt_or_ge j i with h' | h'
          · exact h j h'
          · obtain rfl : j = i := by omega
            omega) q3
    · exact ih i k (by omega) hi h (by omega)
theorem reffits_is (p c m : Int) (h0 : 0 ≤ p) (h1 : p ≤ 18446744073709551615) (k : Nat) (hk : 10 ≤ k) : chequerref01_Fits.f k p c m = some (fitsP p c m) := by
  unfold chequerref01_Fits.f fitsP
  rw [refunpack_is p h0 h1, Option.bind_some]
  exact reffits_go p c m (pixL p) (by have := pixL_len p; omega) (pixL p).length 0 k (by omega) (by omega) (fun j hj => by omega) (by have := pixL_len p; omega)
end Go.Proofs.Ytjpaabjhlaibfaa.Q
