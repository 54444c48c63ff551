/- A number has as many bytes as its digits to the base 128; each of them but the last has 128 more: for any number. No condition. -/
import Derived.Test.YtkkcjhnhbddooaaInum_Put
import Derived.Test.YtkkcjhnhbddooaaLAround
import Derived.Test.YtkkcjhnhbddooaaLGet
import Derived.Test.YtkkcjhnhbddooaaLLives02
import Derived.Test.YtkkcjhnhbddooaaLPut
import Derived.Test.YtkkcjhnhbddooaaLStep
import Derived.Test.YtkkcjhnhbddooaaQ5
namespace Go.Proofs.Ytkkcjhnhbddooaa.Pure
open Go.RowKit Go.Proofs.Ytkkcjhnhbddooaa.Q Go.Proofs.YtkkcjhnhbddooaaW.PrintWords Go.Proofs.YtkkcjhnhbddooaaW.PrintLast
theorem putL_pos (u : Nat) : 0 < (num_putL u).length := by
  by_cases h : u < 128
  · rw [putL_small _ h]; simp
  · rw [putL_big _ h]; simp
/-- All but the last byte have 128 more. -/
theorem putL_high : ∀ (u i : Nat), i < (num_putL u).length → (128 ≤ (num_putL u).getD i 0 ↔ i + 1 < (num_putL u).length) := by
  intro u
  induction u using Nat.strongRecOn with
  | _ u ih =>
    intro i hi
    by_cases hs : u < 128
    · rw [putL_small u hs] at hi ⊢
      have : i = 0 := by simpa using hi
      subst this
      simp
      omega
    · rw [putL_big u hs] at hi ⊢
      rw [List.length_cons] at hi ⊢
      cases i with
      | zero =>
        have := putL_pos (u / 128)
        rw [List.getD_cons_zero]
        omega
      | succ i =>
        rw [List.getD_cons_succ, ih (u / 128) (by omega) i (by omega)]
        omega
theorem numLengths_l1 (u : Nat) (L : List Int) (hL : L = num_putL u) (hl : L.length ≤ 9) : ∀ (d i k : Nat), L.length - i ≤ d → i ≤ L.length → 5000 + d < k → chequerlaw02_NumLengths.l1 k L (i : Int) = some true := by
  intro d
  induction d with
  | zero =>
    intro i k hd hi hk
    obtain ⟨k, rfl⟩ : ∃ m, k = m + 1 := ⟨k - 1, by omega⟩
    simp only [chequerlaw02_NumLengths.l1]
    rw [if_neg (by omega), lives02]
    rfl
  | succ d ih =>
    intro i k hd hi hk
    obtain ⟨k, rfl⟩ : ∃ m, k = m + 1 := ⟨k - 1, by omega⟩
    by_cases hlt : i < L.length
    · have hh := putL_high u i (by rw [← hL]; exact hlt)
      rw [← hL] at hh
      have hbytes : ∀ x ∈ L.take i, 0 ≤ x ∧ x ≤ 255 := fun x hx => putL_bytes u x (by rw [← hL]; exact List.mem_of_mem_take hx)
      have hhigh : ∀ x ∈ L.take i, 128 ≤ x := by
        intro x hx
        obtain ⟨j, hj, rfl⟩ := List.getElem_of_mem hx
        rw [List.length_take] at hj
        have hj2 : j < L.length := by omega
        have := (putL_high u j (by rw [← hL]; exact hj2)).2 (by rw [← hL]; omega)
        rw [← hL, List.getD_eq_getElem?_getD, List.getElem?_eq_getElem hj2] at this
        rw [List.getElem_take]
        exact this
      have hlen : (L.take i).length = i := by rw [List.length_take]; omega
      have hrd : rd L (i : Int) = L.getD i 0 := by unfold rd; rw [Int.toNat_natCast]
      have w1 : wrap64 ((L.length : Int) - 1) = (L.length : Int) - 1 := by unfold wrap64; omega
      have w2 : wrap64 ((i : Int) + 1) = ((i + 1 : Nat) : Int) := by unfold wrap64; omega
      simp only [chequerlaw02_NumLengths.l1]
      rw [hrd, w1, w2, Int.toNat_natCast, if_pos (by omega), if_pos (by omega)]
      have hne : ¬ ((decide (L.getD i 0 ≥ 128) != decide ((i : Int) < (L.length : Int) - 1)) = true) := by
        have : (L.getD i 0 ≥ 128) ↔ ((i : Int) < (L.length : Int) - 1) := hh.trans (by omega)
        have e : decide (L.getD i 0 ≥ 128) = decide ((i : Int) < (L.length : Int) - 1) := decide_eq_decide.2 this
        rw [e, bne_self_eq_false]
        decide
      rw [if_neg hne, if_pos (by omega), get_is _ (by omega) hbytes _ (by omega), getS_short _ 0 0 hhigh (by omega), Option.bind_some, if_pos rfl, if_pos rfl]
      exact ih (i + 1) k (by omega) (by omega) (by omega)
    · simp only [chequerlaw02_NumLengths.l1]
      rw [if_neg (by omega), lives02]
      rfl
theorem numLengths_l0 (u : Nat) (L : List Int) (hL : L = num_putL u) (hl : L.length ≤ 9) : ∀ (x s k : Nat), s ≤ 100 → x ≤ 4611686018427387904 → (L.length = s + (if x = 0 then 0 else (num_putL x).length)) → 5100 + x < k → chequerlaw02_NumLengths.l0 k L 0 (s : Int) (x : Int) = some true := by
  intro x
  induction x using Nat.strongRecOn with
  | _ x ih =>
    intro s k hs hx he hk
    obtain ⟨k, rfl⟩ : ∃ m, k = m + 2 := ⟨k - 2, by omega⟩
    by_cases h0 : x = 0
    · subst h0
      rw [if_pos rfl] at he
      simp only [chequerlaw02_NumLengths.l0]
      rw [if_neg (by omega), if_pos trivial]
      have : ((L.length : Int) != (s : Int)) = false := by simp; omega
      rw [this]
      simp only [chequerlaw02_NumLengths.j1]
      rw [if_neg (by decide)]
      exact numLengths_l1 u L hL hl 9 0 k (by omega) (by omega) (by omega)
    · rw [if_neg h0] at he
      have hp := putL_pos x
      have w1 : wrap64 ((s : Int) + 1) = ((s + 1 : Nat) : Int) := by unfold wrap64; omega
      have w2 : wrap64 (Int.tdiv (x : Int) 128) = ((x / 128 : Nat) : Int) := by rw [Int.tdiv_eq_ediv_of_nonneg (by omega)]; unfold wrap64; omega
      simp only [chequerlaw02_NumLengths.l0]
      rw [if_pos (by omega), w1, w2]
      refine ih (x / 128) (by omega) (s + 1) (k + 1) (by omega) (by omega) ?_ (by omega)
      by_cases hsm : x < 128
      · rw [putL_small x hsm] at he
        rw [if_pos (by omega), he]
        rfl
      · rw [putL_big x hsm, List.length_cons] at he
        rw [if_neg (by omega), he]
        omega
theorem NumLengths : chequerlaw02_NumLengths.Pure := by
  intro a0 h0
  obtain ⟨h0, h0'⟩ := wf_i64 h0
  obtain ⟨m0, m1⟩ := aroundZ_range a0 4611686018427387904 (by omega)
  refine ⟨5100 + 4611686018427387904 + 1, ?_⟩
  unfold chequerlaw02_NumLengths.f
  rw [limit_is a0 h0 h0', Option.bind_some]
  generalize aroundZ a0 4611686018427387904 = m at *
  rw [put_is m m0 (by omega), Option.bind_some]
  obtain ⟨u, rfl⟩ := Int.eq_ofNat_of_zero_le m0
  rw [Int.toNat_natCast]
  have hlen : (num_putL u).length ≤ 9 := putL_len 8 u (by omega)
  have w2 : wrap64 (Int.tdiv (u : Int) 128) = ((u / 128 : Nat) : Int) := by rw [Int.tdiv_eq_ediv_of_nonneg (by omega)]; unfold wrap64; omega
  rw [w2]
  refine numLengths_l0 u _ rfl hlen (u / 128) 1 _ (by omega) (by omega) ?_ (by omega)
  by_cases hsm : u < 128
  · rw [putL_small u hsm, if_pos (by omega)]
    rfl
  · rw [putL_big u hsm, List.length_cons, if_neg (by omega)]
    omega
end Go.Proofs.Ytkkcjhnhbddooaa.Pure
