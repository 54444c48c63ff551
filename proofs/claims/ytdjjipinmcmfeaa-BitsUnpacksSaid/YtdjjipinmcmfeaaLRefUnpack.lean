/- A row's pixels, by the document's text. -/
import Derived.Test.YtdjjipinmcmfeaaIbits_Unpack
import Derived.Test.YtdjjipinmcmfeaaLBits
import Derived.Test.YtdjjipinmcmfeaaLPack
import Derived.Test.YtdjjipinmcmfeaaLUnpack
import Derived.Test.YtdjjipinmcmfeaaQ7
import Derived.Test.YtdjjipinmcmfeaaQ8
namespace Go.Proofs.Ytdjjipinmcmfeaa.Q
open Go.RowKit Go.Proofs.YtdjjipinmcmfeaaW.PrintWords Go.Proofs.YtdjjipinmcmfeaaW.PrintLast Go.Proofs.Ytdjjipinmcmfeaa.Bt
set_option linter.unusedVariables false
theorem refbytes_is (w : Int) (h0 : -9223372036854775808 ≤ w) (h1 : w ≤ 9223372036854775807) (k : Nat) (hk : 1 ≤ k) : chequerref07_Bytes.f k w = some (if w < 1 ∨ 4096 < w then 0 else (w + 7) / 8) := by
  obtain ⟨k, rfl⟩ : ∃ m, k = m + 1 := ⟨k - 1, by omega⟩
  unfold chequerref07_Bytes.f
  by_cases h : w < 1
  · rw [if_pos h, chequerref07_Bytes.j0, if_pos rfl, if_pos (.inl h)]
  · rw [if_neg h]
    by_cases h2 : w > 4096
    · rw [decide_eq_true h2, chequerref07_Bytes.j0, if_pos rfl, if_pos (.inr h2)]
    · rw [decide_eq_false h2, chequerref07_Bytes.j0, if_neg (by decide), if_neg (show ¬ (w < 1 ∨ 4096 < w) by omega)]
      have t : Int.tmod w 8 = w % 8 := Int.tmod_eq_emod_of_nonneg (by omega)
      have w1 : wrap64 (Int.tdiv w 8) = w / 8 := by rw [Int.tdiv_eq_ediv_of_nonneg (by omega)]; unfold wrap64; omega
      have w2 : wrap64 (w / 8 + 1) = w / 8 + 1 := by clear t w1; unfold wrap64; omega
      rw [t, w1, w2]
      clear t w1 w2
      by_cases h3 : w % 8 > 0
      · rw [if_pos h3]
        congr 1
        omega
      · rw [if_neg h3]
        congr 1
        omega
theorem refunpack_go (l : List Int) (hl : bytesOK l) (u : Nat) (hu : u ≤ 4096) (hn : (u + 7) / 8 ≤ l.length) : ∀ (d i k : Nat), u - i = d → i ≤ u → d + 20 < k → chequerref07_Unpack.l0 k l (u : Int) (bits_row l i) (i : Int) = some (bits_row l u, 0) := by
  intro d
  induction d with
  | zero =>
    intro i k hd hi hk
    obtain ⟨k, rfl⟩ : ∃ m, k = m + 1 := ⟨k - 1, by omega⟩
    have e : i = u := by omega
    rw [chequerref07_Unpack.l0, if_neg (by omega), e]
  | succ d ih =>
    intro i k hd hi hk
    obtain ⟨k, rfl⟩ : ∃ m, k = m + 1 := ⟨k - 1, by omega⟩
    have q := ih (i + 1) k (by omega) (by omega) (by omega)
    have hk8 : 8 ≤ k := by omega
    have hi9 : (i : Int) ≤ 9223372036854775807 := by omega
    have hlen : (bits_row l i).length < 17592186044416 := by rw [row_len]; omega
    have c1 : (i : Int) < (u : Int) := by omega
    have hb : bitR l (i : Int) = bitB (l.getD (i / 8) 0) (i % 8) := by
      unfold bitR
      have e1 : ((i : Nat) : Int) / 8 = ((i / 8 : Nat) : Int) := rfl
      have e2 : ((i : Nat) : Int) % 8 = ((i % 8 : Nat) : Int) := rfl
      rw [if_neg (by omega), e1, e2, if_neg (by omega), Int.toNat_natCast, Int.toNat_natCast]
    rw [bits_row_succ] at q
    rw [chequerref07_Unpack.l0, if_pos c1, refbit_is l hl _ hi9 k hk8, Option.bind_some, hb, if_pos hlen, wz_succ i (by omega)]
    exact q
theorem refunpack_is (l : List Int) (hl : bytesOK l) (w : Int) (h0 : -9223372036854775808 ≤ w) (h1 : w ≤ 9223372036854775807) (k : Nat) (hk : 5000 ≤ k) : chequerref07_Unpack.f k l w = some (unpackS l w) := by
  unfold chequerref07_Unpack.f unpackS
  rw [refbytes_is w h0 h1 k (by omega), Option.bind_some]
  by_cases h : w < 1 ∨ 4096 < w
  · rw [if_pos h, if_pos rfl, if_pos h]
  · rw [if_neg h, if_neg h, if_neg (show ¬ (w + 7) / 8 = 0 by omega)]
    by_cases h2 : (l.length : Int) < (w + 7) / 8
    · rw [if_pos h2, if_pos h2]
    · rw [if_neg h2, if_neg h2]
      obtain ⟨u, rfl⟩ := Int.eq_ofNat_of_zero_le (show 0 ≤ w by omega)
      exact refunpack_go l hl u (by omega) (by omega) u 0 k (by omega) (by omega) (by omega)
end Go.Proofs.Ytdjjipinmcmfeaa.Q
