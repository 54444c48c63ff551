/- A row from its end on. -/
import Derived.Test.YtdjjipinmcmfeaaLBits
import Derived.Test.YtdjjipinmcmfeaaLPack
import Derived.Test.YtdjjipinmcmfeaaLRev
import Derived.Test.YtdjjipinmcmfeaaLUnpack
import Derived.Test.YtdjjipinmcmfeaaQ7
namespace Go.Proofs.Ytdjjipinmcmfeaa.Q
open Go.RowKit Go.Proofs.YtdjjipinmcmfeaaW.PrintWords Go.Proofs.YtdjjipinmcmfeaaW.PrintLast Go.Proofs.Ytdjjipinmcmfeaa.Bt
set_option linter.unusedVariables false
def turnedS (l : List Int) (w : Int) : List Int × Int := if (unpackS l w).2 = 0 then packS (unpackS l w).1.reverse else ([], (unpackS l w).2)
theorem unpackS_len (l : List Int) (w : Int) : (unpackS l w).1.length ≤ 4096 := by
  unfold unpackS
  split
  · simp
  · split
    · simp
    · rw [row_len]; omega
theorem unpackS_01 (l : List Int) (w : Int) : only01 (unpackS l w).1 := by
  unfold unpackS
  split
  · exact fun x hx => by simp at hx
  · split
    · exact fun x hx => by simp at hx
    · exact row_01 _ _
theorem unpackS_ok (l : List Int) (w : Int) (h : (unpackS l w).2 = 0) : 1 ≤ (unpackS l w).1.length ∧ ((unpackS l w).1.length : Int) = w := by
  unfold unpackS at h ⊢
  by_cases a : w < 1 ∨ 4096 < w
  · rw [if_pos a] at h; simp at h
  · rw [if_neg a] at h ⊢
    by_cases b : (l.length : Int) < (w + 7) / 8
    · rw [if_pos b] at h; simp at h
    · rw [if_neg b]
      rw [row_len]
      omega
theorem turned_is (l : List Int) (hl : bytesOK l) (w : Int) (h0 : -9223372036854775808 ≤ w) (h1 : w ≤ 9223372036854775807) (k : Nat) (hk : 10000 ≤ k) : bits_Turned.f k l w = some (turnedS l w) := by
  unfold bits_Turned.f turnedS
  rw [unpack_is l hl w h0 h1, Option.bind_some]
  have hlen := unpackS_len l w
  by_cases h : (unpackS l w).2 = 0
  · rw [if_pos h, if_pos h, rev_is _ (by omega) k (by omega), Option.bind_some, pack_is _ (by rw [List.length_reverse]; omega) k (by omega), Option.bind_some]
  · rw [if_neg h, if_neg h]
theorem only01_rev {l : List Int} (h : only01 l) : only01 l.reverse := fun x hx => h x (List.mem_reverse.1 hx)
end Go.Proofs.Ytdjjipinmcmfeaa.Q
