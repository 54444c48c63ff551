/- The spare bits. -/
import Derived.Test.YtdjjipinmcmfeaaLBits
import Derived.Test.YtdjjipinmcmfeaaLPack
import Derived.Test.YtdjjipinmcmfeaaLUnpack
import Derived.Test.YtdjjipinmcmfeaaQ6
import Derived.Laws.BitsLemmas
namespace Go.Proofs.Ytdjjipinmcmfeaa.Q
open Go.RowKit Go.Proofs.YtdjjipinmcmfeaaW.PrintWords Go.Proofs.YtdjjipinmcmfeaaW.PrintLast Go.Proofs.Ytdjjipinmcmfeaa.Bt
set_option linter.unusedVariables false
theorem shl_mask : ∀ s : Fin 8, wrap64 (shl .i64 1 ((s.val : Nat) : Int) - 1) = 2 ^ s.val - 1 := by
  intro s
  have : s = 0 ∨ s = 1 ∨ s = 2 ∨ s = 3 ∨ s = 4 ∨ s = 5 ∨ s = 6 ∨ s = 7 := by omega
  rcases this with rfl | rfl | rfl | rfl | rfl | rfl | rfl | rfl <;> (unfold wrap64; decide)
theorem wraps_i64_63 (n : Int) (h0 : 0 ≤ n) (h1 : n < 2 ^ 63) : IntKind.i64.wrap n = n := IntWalk.i64_in n ⟨by omega, by omega⟩
def spareS (l : List Int) (w : Int) : Int := if (unpackS l w).2 = 0 then l.getD ((w + 7) / 8 - 1).toNat 0 % 2 ^ (8 * ((w + 7) / 8) - w).toNat else 0
theorem spare_is (l : List Int) (hl : bytesOK l) (w : Int) (h0 : -9223372036854775808 ≤ w) (h1 : w ≤ 9223372036854775807) : bits_Spare.f l w = some (spareS l w) := by
  unfold bits_Spare.f spareS
  rw [unpack_is l hl w h0 h1, Option.bind_some]
  by_cases h : (unpackS l w).2 = 0
  · rw [if_pos h, if_pos h, bytes_is w h0 h1, Option.bind_some]
    have hw : ¬ (w < 1 ∨ 4096 < w) ∧ ¬ (l.length : Int) < (w + 7) / 8 := by
      unfold unpackS at h
      by_cases a : w < 1 ∨ 4096 < w
      · rw [if_pos a] at h; simp at h
      · rw [if_neg a] at h
        by_cases b : (l.length : Int) < (w + 7) / 8
        · rw [if_pos b] at h; simp at h
        · exact ⟨a, b⟩
    obtain ⟨ha, hb⟩ := hw
    rw [if_neg ha]
    obtain ⟨u, rfl⟩ := Int.eq_ofNat_of_zero_le (show 0 ≤ w by omega)
    have e7 : ((u : Int) + 7) / 8 = (((u + 7) / 8 : Nat) : Int) := by omega
    rw [e7] at hb ⊢
    have hq0 : u ≤ 8 * ((u + 7) / 8) := by omega
    have hq1 : 8 * ((u + 7) / 8) - u < 8 := by omega
    have hq2 : 1 ≤ (u + 7) / 8 := by omega
    have hq3 : (u + 7) / 8 ≤ 600 := by omega
    generalize (u + 7) / 8 = q at *
    clear e7 h
    have w1 : wrap64 ((q : Int) - 1) = ((q - 1 : Nat) : Int) := by unfold wrap64; omega
    have w2 : wrap64 (wrap64 (8 * (q : Int)) - (u : Int)) = ((8 * q - u : Nat) : Int) := by unfold wrap64; omega
    have e1 : ((q : Int) - 1).toNat = q - 1 := by omega
    have e2 : (8 * (q : Int) - (u : Int)).toNat = 8 * q - u := by omega
    have c1 : (0 : Int) ≤ ((q - 1 : Nat) : Int) := by omega
    have c2 : ((q - 1 : Nat) : Int) < (l.length : Int) := by clear w1 w2 e1 e2; omega
    have c3 : (0 : Int) ≤ ((8 * q - u : Nat) : Int) := by omega
    have hrd : rd l ((q - 1 : Nat) : Int) = l.getD (q - 1) 0 := by unfold rd; rw [Int.toNat_natCast]
    obtain ⟨b0, b1⟩ := bytesOK_get hl (q - 1)
    rw [w1, w2, e1, e2, if_pos c1, if_pos c2, if_pos c3, hrd]
    clear w1 w2 e1 e2 hrd
    generalize l.getD (q - 1) 0 = x at *
    have w3 : wrap64 x = x := by unfold wrap64; omega
    have hm := shl_mask ⟨8 * q - u, hq1⟩
    rw [w3, hm]
    have hi : 8 * q - u ≤ 63 := by omega
    rw [bits_mask .i64 63 (by decide) wraps_i64_63 (8 * q - u) hi x b0 (by omega)]
  · rw [if_neg h, if_neg h]
theorem spare_pack {l : List Int} (h : only01 l) (h0 : 1 ≤ l.length) (h1 : l.length ≤ 4096) : bits_Spare.f (packL l) (l.length : Int) = some 0 := by
  rw [spare_is _ (packL_bytes h) _ (by omega) (by omega)]
  unfold spareS
  have hu : (unpackS (packL l) (l.length : Int)).2 = 0 := by
    unfold unpackS
    rw [if_neg (by omega), packL_len, if_neg (by omega)]
  rw [if_pos hu]
  have e7 : ((l.length : Int) + 7) / 8 = (((l.length + 7) / 8 : Nat) : Int) := by omega
  rw [e7]
  have e1 : ((((l.length + 7) / 8 : Nat) : Int) - 1).toNat = (l.length + 7) / 8 - 1 := by omega
  have e2 : (8 * (((l.length + 7) / 8 : Nat) : Int) - (l.length : Int)).toNat = 8 * ((l.length + 7) / 8) - l.length := by omega
  rw [e1, e2, packL_get l _ (by omega)]
  clear e7 e1 e2 hu
  obtain ⟨q, hq⟩ : ∃ q, (l.length + 7) / 8 = q + 1 := ⟨(l.length + 7) / 8 - 1, by omega⟩
  rw [hq, Nat.add_sub_cancel]
  by_cases h8 : l.length = 8 * q + 8
  · have : 8 * (q + 1) - l.length = 0 := by omega
    rw [this, Int.pow_zero, Int.emod_one]
  · obtain ⟨y, _, hy⟩ := byteP_mul l h q (l.length - 8 * q) (by omega)
    have e3 : 8 * q + (l.length - 8 * q) = l.length := by omega
    rw [e3, List.take_length] at hy
    have e4 : 8 * (q + 1) - l.length = 8 - (l.length - 8 * q) := by omega
    rw [hy, e4, Int.natCast_mul, Int.natCast_pow]
    congr 1
    exact Int.mul_emod_left _ _
end Go.Proofs.Ytdjjipinmcmfeaa.Q
