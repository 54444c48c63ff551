/- Bits of bytes: both texts answer the same. -/
import Derived.Test.YtdjjipinmcmfeaaIbits_Bit
import Derived.Test.YtdjjipinmcmfeaaQ3
namespace Go.Proofs.Ytdjjipinmcmfeaa.Q
open Go.RowKit Go.Proofs.YtdjjipinmcmfeaaW.PrintWords Go.Proofs.YtdjjipinmcmfeaaW.PrintLast Go.Proofs.Ytdjjipinmcmfeaa.Bt
set_option linter.unusedVariables false
def bytesOK (l : List Int) : Prop := ∀ x ∈ l, 0 ≤ x ∧ x ≤ 255
theorem bytesOK_get {l : List Int} (h : bytesOK l) (i : Nat) : 0 ≤ l.getD i 0 ∧ l.getD i 0 ≤ 255 := by
  rw [List.getD_eq_getElem?_getD]
  cases e : l[i]? with
  | none => simp
  | some x => exact h x (List.mem_of_getElem? e)
theorem bytesOK_ok {l : List Int} (h : bytesOK l) : bits_ok l = true := by
  unfold bits_ok
  rw [List.all_eq_true]
  intro x hx
  obtain ⟨a, b⟩ := h x hx
  simp [a, b]
theorem bytesOK_take {l : List Int} (h : bytesOK l) (m : Nat) : bytesOK (l.take m) := fun x hx => h x (List.mem_of_mem_take hx)
theorem bitB_01 (c : Int) (i : Nat) : bitB c i = 0 ∨ bitB c i = 1 := by unfold bitB; omega
/-- The bit, or -1. -/
def bitR (l : List Int) (i : Int) : Int := if i < 0 then -1 else if (l.length : Int) ≤ i / 8 then -1 else bitB (l.getD (i / 8).toNat 0) (i % 8).toNat
theorem refbit_l0 : ∀ (d j k n : Nat), 7 - j = d → j ≤ 7 → d < k → n < 256 → chequerref07_Bit.l0 k (n : Int) (j : Int) = some (((n / 2 ^ d % 2 : Nat) : Int)) := by
  intro d
  induction d with
  | zero =>
    intro j k n hd hj hk hn
    obtain ⟨k, rfl⟩ : ∃ m, k = m + 1 := ⟨k - 1, by omega⟩
    rw [chequerref07_Bit.l0, if_neg (by omega)]
    have e : Int.tmod (n : Int) 2 = ((n / 2 ^ 0 % 2 : Nat) : Int) := by rw [Int.tmod_eq_emod_of_nonneg (by omega), Nat.pow_zero, Nat.div_one]; omega
    rw [e]
  | succ d ih =>
    intro j k n hd hj hk hn
    obtain ⟨k, rfl⟩ : ∃ m, k = m + 1 := ⟨k - 1, by omega⟩
    have w1 : wrap64 (Int.tdiv (n : Int) 2) = ((n / 2 : Nat) : Int) := by rw [Int.tdiv_eq_ediv_of_nonneg (by omega)]; unfold wrap64; omega
    have w2 : wrap64 ((j : Int) + 1) = ((j + 1 : Nat) : Int) := by unfold wrap64; omega
    rw [chequerref07_Bit.l0, if_pos (by omega), w1, w2, ih (j + 1) k (n / 2) (by omega) (by omega) (by omega) (by omega), Nat.div_div_eq_div_mul, ← Nat.pow_succ']
theorem bitB_nat (c i : Nat) : bitB (c : Int) i = ((c / 2 ^ (7 - i) % 2 : Nat) : Int) := by
  unfold bitB
  have e : ((c : Nat) : Int) / 2 ^ (7 - i) = ((c / 2 ^ (7 - i) : Nat) : Int) := by rw [Int.natCast_ediv]; congr 1
  rw [e]
  rfl
theorem refbit_is (l : List Int) (hl : bytesOK l) (i : Int) (h1 : i ≤ 9223372036854775807) (k : Nat) (hk : 8 ≤ k) : chequerref07_Bit.f k l i = some (bitR l i) := by
  unfold chequerref07_Bit.f bitR
  by_cases h0 : i < 0
  · rw [if_pos h0, if_pos h0]
  · rw [if_neg h0, if_neg h0]
    have w1 : wrap64 (Int.tdiv i 8) = i / 8 := by rw [Int.tdiv_eq_ediv_of_nonneg (by omega)]; unfold wrap64; omega
    have t1 : Int.tmod i 8 = i % 8 := Int.tmod_eq_emod_of_nonneg (by omega)
    have b0 : 0 ≤ i / 8 := by omega
    have b1 : 0 ≤ i % 8 ∧ i % 8 < 8 := by omega
    rw [w1, t1]
    generalize i / 8 = q at *
    generalize i % 8 = m at *
    clear w1 t1
    by_cases h2 : q ≥ (l.length : Int)
    · rw [if_pos h2, if_pos (by omega)]
    · rw [if_neg h2, if_pos b0, if_pos (show q < (l.length : Int) by omega), if_neg (show ¬ (l.length : Int) ≤ q by omega)]
      obtain ⟨c0, c1⟩ := bytesOK_get hl q.toNat
      have hrd : rd l q = l.getD q.toNat 0 := rfl
      rw [hrd]
      generalize l.getD q.toNat 0 = c at *
      clear hrd
      obtain ⟨c, rfl⟩ := Int.eq_ofNat_of_zero_le c0
      obtain ⟨m, rfl⟩ := Int.eq_ofNat_of_zero_le b1.1
      have w3 : wrap64 (c : Int) = (c : Int) := by unfold wrap64; omega
      rw [w3, refbit_l0 (7 - m) m k c rfl (by omega) (by omega) (by omega), Int.toNat_natCast, bitB_nat]
theorem bit_is (l : List Int) (hl : bytesOK l) (i : Int) (h1 : i ≤ 9223372036854775807) : bits_Bit.f l i = some (mx (bitR l i) 0, decide (bitR l i ≥ 0)) := by
  unfold bits_Bit.f bitR
  by_cases h0 : i < 0
  · rw [if_pos h0, if_pos h0]; rfl
  · rw [if_neg h0, if_neg h0, if_neg (by omega)]
    by_cases h2 : (l.length : Int) ≤ i / 8
    · rw [if_pos h2, if_pos h2]; rfl
    · rw [if_neg h2, if_neg h2, if_pos (bytesOK_ok hl)]
      rcases bitB_01 (l.getD (i / 8).toNat 0) (i % 8).toNat with e | e <;> rw [e] <;> rfl
end Go.Proofs.Ytdjjipinmcmfeaa.Q
