/- The document's example of layer 2. -/
import Derived.Test.YtkkcjhnhbddooaaInum_Put
import Derived.Test.YtkkcjhnhbddooaaQ3
namespace Go.Proofs.Ytkkcjhnhbddooaa.Q
open Go.RowKit Go.Proofs.YtkkcjhnhbddooaaW.PrintWords Go.Proofs.YtkkcjhnhbddooaaW.PrintLast
theorem lives02 : chequerlaw02_lives.f = some true := by
  have h : num_Put.f 300 = some ([172, 2], 0) := by
    unfold num_Put.f
    rw [if_neg (by omega)]
    have : num_putL (300 : Int).toNat = [172, 2] := by
      show num_putL 300 = _
      unfold num_putL
      rw [dif_neg (by omega)]
      unfold num_putL
      rw [dif_pos (by omega)]
      rfl
    rw [this]
  unfold chequerlaw02_lives.f
  rw [h]
  simp
end Go.Proofs.Ytkkcjhnhbddooaa.Q
