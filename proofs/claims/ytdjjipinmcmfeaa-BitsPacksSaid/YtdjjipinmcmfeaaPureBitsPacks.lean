/- A row's bytes are the document's, or refused; they are unpacked as they were, and no spare bit is 1: for any numbers. No condition. -/
import Derived.Test.YtdjjipinmcmfeaaLLives07
import Derived.Test.YtdjjipinmcmfeaaLOnes
import Derived.Test.YtdjjipinmcmfeaaLPack
import Derived.Test.YtdjjipinmcmfeaaLSame
import Derived.Test.YtdjjipinmcmfeaaLSpare
import Derived.Test.YtdjjipinmcmfeaaLUnpack
import Derived.Test.YtdjjipinmcmfeaaQ6
namespace Go.Proofs.Ytdjjipinmcmfeaa.Pure
open Go.RowKit Go.Proofs.Ytdjjipinmcmfeaa.Q Go.Proofs.YtdjjipinmcmfeaaW.PrintWords Go.Proofs.YtdjjipinmcmfeaaW.PrintLast
theorem BitsPacks : chequerlaw07_BitsPacks.Pure := by
  intro l0 h1 h1' h2
  refine ⟨2000000, ?_⟩
  unfold chequerlaw07_BitsPacks.f
  have hmn : mn (l0.length : Int) 60 = ((min l0.length 60 : Nat) : Int) := by unfold mn; split <;> omega
  have hr : (l0.take (min l0.length 60)).length ≤ 60 := by rw [List.length_take]; omega
  rw [hmn, Int.toNat_natCast, if_pos (by omega), if_pos (by omega)]
  generalize l0.take (min l0.length 60) = l at *
  have ho := ones_is l 60 (by omega) 2000000 (by omega)
  rw [show ((60 : Nat) : Int) = 60 from rfl, List.take_of_length_le hr] at ho
  have h01 := onesL_01 l
  have hol := onesL_len l
  rw [ho, Option.bind_some]
  generalize onesL l = o at *
  rw [pack_is l (by omega) _ (by omega), refpack_is l _ (by omega), pack_is o (by omega) _ (by omega), refpack_is o _ (by omega), Option.bind_some, Option.bind_some, Option.bind_some, Option.bind_some, if_pos rfl, if_pos rfl, if_pos rfl, bne_self_eq_false]
  rw [chequerlaw07_BitsPacks.j0, if_neg (by decide)]
  by_cases hz : o.length = 0
  · have : packS o = ([], 1) := by unfold packS; rw [if_pos (by omega)]
    rw [if_pos (by omega), this, if_pos rfl, lives07 _ (by omega)]
    rfl
  · have : packS o = (packL o, 0) := by unfold packS; rw [if_neg (by omega), if_pos h01]
    rw [if_neg (by omega), this, unpack_pack h01 (by omega) (by omega), Option.bind_some, if_pos rfl, same_is o o (by omega) _ (by omega), Option.bind_some, if_pos (by simp), spare_pack h01 (by omega) (by omega), Option.bind_some, if_pos rfl, lives07 _ (by omega)]
    rfl
end Go.Proofs.Ytdjjipinmcmfeaa.Pure
