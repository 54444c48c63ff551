/- Each bit of bytes is the document's, and there is none beside: for any bytes, any number. No condition. -/
import Derived.Test.YtdjjipinmcmfeaaLAround
import Derived.Test.YtdjjipinmcmfeaaLBits
import Derived.Test.YtdjjipinmcmfeaaLLives07
import Derived.Test.YtdjjipinmcmfeaaQ4
namespace Go.Proofs.Ytdjjipinmcmfeaa.Pure
open Go.RowKit Go.Proofs.Ytdjjipinmcmfeaa.Q Go.Proofs.YtdjjipinmcmfeaaW.PrintWords Go.Proofs.YtdjjipinmcmfeaaW.PrintLast
theorem bitsEach_go (l : List Int) (hl : bytesOK l) (hn : l.length ≤ 12) (a : Int) (ha : a ≤ 9223372036854775807) : ∀ (d : Nat) (i : Int) (k : Nat), (8 * (l.length : Int) + 1 - i).toNat ≤ d → -1 ≤ i → d + 6000 < k → chequerlaw07_BitsEach.l0 k l a i = some true := by
  intro d
  induction d with
  | zero =>
    intro i k hd hi hk
    obtain ⟨k, rfl⟩ : ∃ m, k = m + 1 := ⟨k - 1, by omega⟩
    have w1 : wrap64 (8 * (l.length : Int)) = 8 * (l.length : Int) := by unfold wrap64; omega
    rw [chequerlaw07_BitsEach.l0, w1, if_neg (by omega), bit_is l hl a ha, refbit_is l hl a ha k (by omega), Option.bind_some, Option.bind_some, if_pos (by simp), if_pos rfl, lives07 k (by omega)]
    rfl
  | succ d ih =>
    intro i k hd hi hk
    obtain ⟨k, rfl⟩ : ∃ m, k = m + 1 := ⟨k - 1, by omega⟩
    by_cases h : i ≤ 8 * (l.length : Int)
    · have w1 : wrap64 (8 * (l.length : Int)) = 8 * (l.length : Int) := by unfold wrap64; omega
      have w2 : wrap64 (i + 1) = i + 1 := by unfold wrap64; omega
      rw [chequerlaw07_BitsEach.l0, w1, w2, if_pos h, bit_is l hl i (by omega), refbit_is l hl i (by omega) k (by omega), Option.bind_some, Option.bind_some, if_neg (by simp), if_pos rfl]
      exact ih (i + 1) k (by omega) (by omega) (by omega)
    · exact ih i (k + 1) (by omega) hi (by omega)
theorem BitsEach : chequerlaw07_BitsEach.Pure := by
  intro l0 a1 h1 h1' h2 h0
  obtain ⟨h0, h0'⟩ := wf_i64 h0
  refine ⟨8000, ?_⟩
  unfold chequerlaw07_BitsEach.f
  have hmn : mn (l0.length : Int) 12 = ((min l0.length 12 : Nat) : Int) := by unfold mn; split <;> omega
  have hr : (l0.take (min l0.length 12)).length ≤ 12 := by rw [List.length_take]; omega
  rw [hmn, Int.toNat_natCast, if_pos (by omega), if_pos (by omega)]
  exact bitsEach_go _ (bytesOK_take (fun x hx => wf_u8 (h2 x hx)) _) hr a1 h0' 1000 (-1) 8000 (by omega) (by omega) (by omega)
end Go.Proofs.Ytdjjipinmcmfeaa.Pure
