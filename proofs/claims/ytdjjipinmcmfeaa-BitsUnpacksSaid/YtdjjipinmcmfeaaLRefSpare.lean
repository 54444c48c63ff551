/- The spare bits, by the document's text. -/
import Derived.Test.YtdjjipinmcmfeaaLBits
import Derived.Test.YtdjjipinmcmfeaaLPack
import Derived.Test.YtdjjipinmcmfeaaLRefUnpack
import Derived.Test.YtdjjipinmcmfeaaLSpare
import Derived.Test.YtdjjipinmcmfeaaLUnpack
import Derived.Test.YtdjjipinmcmfeaaQ8
namespace Go.Proofs.Ytdjjipinmcmfeaa.Q
open Go.RowKit Go.Proofs.YtdjjipinmcmfeaaW.PrintWords Go.Proofs.YtdjjipinmcmfeaaW.PrintLast Go.Proofs.Ytdjjipinmcmfeaa.Bt
set_option linter.unusedVariables false
theorem low_step (x m j : Nat) : (x / 2 ^ (m + 1) % 2 ^ j) * 2 + x / 2 ^ m % 2 = x / 2 ^ m % 2 ^ (j + 1) := by
  have e : x / 2 ^ (m + 1) = x / 2 ^ m / 2 := by rw [Nat.pow_succ, Nat.div_div_eq_div_mul]
  rw [e, Nat.pow_succ', Nat.mod_mul]
  omega
theorem wz_acc (a b : Nat) (h : a ≤ 255) : wrap64 (wrap64 ((a : Int) * 2) + ((b % 2 : Nat) : Int)) = ((a * 2 + b % 2 : Nat) : Int) := by unfold wrap64; omega
theorem refspare_go (l : List Int) (hl : bytesOK l) (u q x : Nat) (hu0 : 1 ≤ u) (hu : u ≤ 4096) (hq : q = (u + 7) / 8) (hn : q ≤ l.length) (hx : l.getD (q - 1) 0 = (x : Int)) (hx8 : x < 256) :
    ∀ (d i k : Nat), 8 * q - i = d → u ≤ i → i ≤ 8 * q → d + 20 < k → chequerref07_Spare.l0 k l (u : Int) ((x / 2 ^ (8 * q - i) % 2 ^ (i - u) : Nat) : Int) (i : Int) = some ((x % 2 ^ (8 * q - u) : Nat) : Int) := by
  intro d
  induction d with
  | zero =>
    intro i k hd hi0 hi hk
    obtain ⟨k, rfl⟩ : ∃ m, k = m + 1 := ⟨k - 1, by omega⟩
    have e : i = 8 * q := by omega
    have e7 : ((u : Int) + 7) / 8 = ((q : Nat) : Int) := by omega
    have c : ¬ ((8 * q : Nat) : Int) < ((8 * q : Nat) : Int) := by omega
    have u0 : -9223372036854775808 ≤ (u : Int) := by omega
    have u1 : (u : Int) ≤ 9223372036854775807 := by omega
    have u2 : ¬ ((u : Int) < 1 ∨ 4096 < (u : Int)) := by omega
    have hk1 : 1 ≤ k := by omega
    have hw : wrap64 (8 * ((q : Nat) : Int)) = ((8 * q : Nat) : Int) := by unfold wrap64; omega
    rw [chequerref07_Spare.l0, refbytes_is _ u0 u1 k hk1, Option.bind_some, if_neg u2, e7, hw, e, if_neg c, Nat.sub_self, Nat.pow_zero, Nat.div_one]
  | succ d ih =>
    intro i k hd hi0 hi hk
    obtain ⟨k, rfl⟩ : ∃ m, k = m + 1 := ⟨k - 1, by omega⟩
    have e7 : ((u : Int) + 7) / 8 = ((q : Nat) : Int) := by omega
    have c : ((i : Nat) : Int) < ((8 * q : Nat) : Int) := by omega
    have q1 : 8 * q - (i + 1) = d := by omega
    have q2 : u ≤ i + 1 := by omega
    have q3 : i + 1 ≤ 8 * q := by omega
    have q4 : d + 20 < k := by omega
    have hi9 : (i : Int) ≤ 9223372036854775807 := by omega
    have hk8 : 8 ≤ k := by omega
    have hk1 : 1 ≤ k := by omega
    have hi1 : i ≤ 100000 := by omega
    have u0 : -9223372036854775808 ≤ (u : Int) := by omega
    have u1 : (u : Int) ≤ 9223372036854775807 := by omega
    have u2 : ¬ ((u : Int) < 1 ∨ 4096 < (u : Int)) := by omega
    have hid : i / 8 = q - 1 := by omega
    have e3 : 7 - i % 8 = 8 * q - i - 1 := by omega
    have g0 : ¬ (i : Int) < 0 := by omega
    have g1 : ¬ (l.length : Int) ≤ ((i / 8 : Nat) : Int) := by omega
    have hm : 8 * q - i = (8 * q - i - 1) + 1 := by omega
    have hj : i + 1 - u = (i - u) + 1 := by omega
    have hm2 : 8 * q - (i + 1) = 8 * q - i - 1 := by omega
    have hq6 : q ≤ 600 := by omega
    have hx9 : x ≤ 255 := by omega
    have hb : bitR l (i : Int) = ((x / 2 ^ (8 * q - i - 1) % 2 : Nat) : Int) := by
      unfold bitR
      have e1 : ((i : Nat) : Int) / 8 = ((i / 8 : Nat) : Int) := rfl
      have e2 : ((i : Nat) : Int) % 8 = ((i % 8 : Nat) : Int) := rfl
      rw [if_neg g0, e1, e2, if_neg g1, Int.toNat_natCast, Int.toNat_natCast, hid, hx, bitB_nat, e3]
    have step := low_step x (8 * q - i - 1) (i - u)
    rw [← hm, ← hj] at step
    have hr : x / 2 ^ (8 * q - i) % 2 ^ (i - u) ≤ 255 := Nat.le_trans (Nat.mod_le _ _) (Nat.le_trans (Nat.div_le_self _ _) hx9)
    have key := ih (i + 1) k q1 q2 q3 q4
    rw [hm2, ← step] at key
    have hw : wrap64 (8 * ((q : Nat) : Int)) = ((8 * q : Nat) : Int) := by clear key step hr hb ih hx hl; unfold wrap64; omega
    have hw2 : wrap64 (wrap64 (((x / 2 ^ (8 * q - i) % 2 ^ (i - u) : Nat) : Int) * 2) + ((x / 2 ^ (8 * q - i - 1) % 2 : Nat) : Int)) = (((x / 2 ^ (8 * q - i) % 2 ^ (i - u)) * 2 + x / 2 ^ (8 * q - i - 1) % 2 : Nat) : Int) := by
      exact wz_acc _ _ hr
    rw [chequerref07_Spare.l0, refbytes_is _ u0 u1 k hk1, Option.bind_some, if_neg u2, e7, hw, if_pos c, refbit_is l hl _ hi9 k hk8, Option.bind_some, hb, hw2, wz_succ i hi1]
    exact key
theorem refspare_is (l : List Int) (hl : bytesOK l) (w : Int) (h0 : -9223372036854775808 ≤ w) (h1 : w ≤ 9223372036854775807) (k : Nat) (hk : 6000 ≤ k) : chequerref07_Spare.f k l w = some (spareS l w) := by
  unfold chequerref07_Spare.f spareS
  rw [refunpack_is l hl w h0 h1 k (by omega), Option.bind_some]
  by_cases h : (unpackS l w).2 = 0
  · rw [if_pos h, if_pos h]
    have hw : ¬ (w < 1 ∨ 4096 < w) ∧ ¬ (l.length : Int) < (w + 7) / 8 := by
      unfold unpackS at h
      by_cases a : w < 1 ∨ 4096 < w
      · rw [if_pos a] at h; simp at h
      · rw [if_neg a] at h
        by_cases b : (l.length : Int) < (w + 7) / 8
        · rw [if_pos b] at h; simp at h
        · exact ⟨a, b⟩
    obtain ⟨ha, hb⟩ := hw
    obtain ⟨u, rfl⟩ := Int.eq_ofNat_of_zero_le (show 0 ≤ w by omega)
    obtain ⟨b0, b1⟩ := bytesOK_get hl ((u + 7) / 8 - 1)
    obtain ⟨x, hx⟩ := Int.eq_ofNat_of_zero_le b0
    have e1 : (((u : Int) + 7) / 8 - 1).toNat = (u + 7) / 8 - 1 := by omega
    have e2 : (8 * (((u : Int) + 7) / 8) - (u : Int)).toNat = 8 * ((u + 7) / 8) - u := by omega
    have := refspare_go l hl u ((u + 7) / 8) x (by omega) (by omega) rfl (by omega) hx (by omega) (8 * ((u + 7) / 8) - u) u k rfl (Nat.le_refl _) (by omega) (by omega)
    rw [Nat.sub_self, Nat.pow_zero, Nat.mod_one] at this
    rw [e1, e2, hx]
    refine Eq.trans this ?_
    rw [Int.natCast_emod, Int.natCast_pow]
    rfl
  · rw [if_neg h, if_neg h]
end Go.Proofs.Ytdjjipinmcmfeaa.Q
