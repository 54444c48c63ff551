/- A number with one digit more is the document's, or refused: for any greatest number, any number up to that, any byte. No condition. -/
import Derived.Test.YtkkcjhnhbddooaaLAround
import Derived.Test.YtkkcjhnhbddooaaLLives02
import Derived.Test.YtkkcjhnhbddooaaLStep
import Derived.Test.YtkkcjhnhbddooaaQ3
namespace Go.Proofs.Ytkkcjhnhbddooaa.Pure
open Go.RowKit Go.Proofs.Ytkkcjhnhbddooaa.Q Go.Proofs.YtkkcjhnhbddooaaW.PrintWords Go.Proofs.YtkkcjhnhbddooaaW.PrintLast
theorem NumSteps : chequerlaw02_NumSteps.Pure := by
  intro a0 a1 a2 h0 h1 h2
  obtain ⟨h0, h0'⟩ := wf_i64 h0
  obtain ⟨h1, h1'⟩ := wf_i64 h1
  obtain ⟨h2, h2'⟩ := wf_u8 h2
  obtain ⟨m0, m1⟩ := aroundZ_range a0 4611686018427387904 (by omega)
  refine ⟨1, ?_⟩
  unfold chequerlaw02_NumSteps.f
  rw [limit_is a0 h0 h0', Option.bind_some]
  generalize aroundZ a0 4611686018427387904 = m at *
  have w1 : wrap64 (m + 1) = m + 1 := by unfold wrap64; omega
  rw [w1, around_is a1 _ h1 h1' (by omega), Option.bind_some]
  obtain ⟨n0, n1⟩ := aroundZ_range a1 (m + 1) (by omega)
  generalize aroundZ a1 (m + 1) = n at *
  have w2 : wrap64 (Int.tdiv m 10) = m / 10 := by rw [Int.tdiv_eq_ediv_of_nonneg m0]; unfold wrap64; omega
  rw [w2, step_is 0 n a2 m n0 (by omega) m0 (by omega) h2 h2', refstep_is 0 n a2 m n0 (by omega) m0 (by omega) h2 h2', step_is 0 (m / 10) a2 m (by omega) (by omega) m0 (by omega) h2 h2', refstep_is 0 (m / 10) a2 m (by omega) (by omega) m0 (by omega) h2 h2', lives02]
  simp only [Option.bind_some, if_true]
end Go.Proofs.Ytkkcjhnhbddooaa.Pure
