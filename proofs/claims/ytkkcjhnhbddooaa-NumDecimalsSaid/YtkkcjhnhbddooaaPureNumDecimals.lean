/- A number's digits, and how many there are, are the document's: for any number. No condition. -/
import Derived.Test.YtkkcjhnhbddooaaInum_Decimal
import Derived.Test.YtkkcjhnhbddooaaLAround
import Derived.Test.YtkkcjhnhbddooaaLDecimal
import Derived.Test.YtkkcjhnhbddooaaLLives02
import Derived.Test.YtkkcjhnhbddooaaQ8
namespace Go.Proofs.Ytkkcjhnhbddooaa.Pure
open Go.RowKit Go.Proofs.Ytkkcjhnhbddooaa.Q Go.Proofs.YtkkcjhnhbddooaaW.PrintWords Go.Proofs.YtkkcjhnhbddooaaW.PrintLast
theorem NumDecimals : chequerlaw02_NumDecimals.Pure := by
  intro a0 h0
  obtain ⟨h0, h0'⟩ := wf_i64 h0
  refine ⟨1000, ?_⟩
  have hd : num_Decimal.f a0 = some (strOfNums (num_decL a0)) := by unfold num_Decimal.f; rw [if_pos ⟨h0, h0'⟩]
  unfold chequerlaw02_NumDecimals.f num_Places.f
  rw [hd, refdec_is 18 a0 1000 (by omega) (by omega) h0 h0' (by omega), Option.bind_some, Option.bind_some, if_pos rfl, Option.bind_some, Option.bind_some, if_pos rfl, lives02]
  rfl
end Go.Proofs.Ytkkcjhnhbddooaa.Pure
