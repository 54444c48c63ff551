/- All numbers of a text, how many bytes they took, the error, and how many bytes are left out, are the document's: for any text, any greatest number. No condition. -/
import Derived.Test.YtbbgichpbjgifaaLAround
import Derived.Test.YtbbgichpbjgifaaLLimit
import Derived.Test.YtbbgichpbjgifaaLLives05
import Derived.Test.YtbbgichpbjgifaaLSame
import Derived.Test.YtbbgichpbjgifaaLTokAll
import Derived.Test.YtbbgichpbjgifaaLTokSkip
import Derived.Test.YtbbgichpbjgifaaLToken
import Derived.Test.YtbbgichpbjgifaaQ18
namespace Go.Proofs.Ytbbgichpbjgifaa.Pure
open Go.RowKit Go.Proofs.Ytbbgichpbjgifaa.Q Go.Proofs.YtbbgichpbjgifaaW.PrintWords Go.Proofs.YtbbgichpbjgifaaW.PrintLast
theorem TokenAll : chequerlaw05_TokenAll.Pure := by
  intro a0 a1 h0 h1
  obtain ⟨h1, h1'⟩ := wf_i64 h1
  obtain ⟨m0, m1⟩ := aroundZ_range a1 4611686018427387904 (by omega)
  refine ⟨200, ?_⟩
  unfold chequerlaw05_TokenAll.f
  have hf := few_is a0 60
  rw [show ((60 : Nat) : Int) = 60 from rfl] at hf
  have hz := few_size a0 60
  rw [hf, Option.bind_some, limit_is a1 h1 h1', Option.bind_some]
  generalize (if a0.size > 60 then a0.extract 0 60 else a0) = s at *
  generalize aroundZ a1 4611686018427387904 = m at *
  obtain ⟨L, hB, rfl, hl⟩ := str_nums s
  have hlen := allS_len m L 0 [] 0 0 0 9
  rw [List.length_nil, Nat.zero_add] at hlen
  rw [all_is m m0 (by omega) L hB (by omega), Option.bind_some, refall_is m m0 (by omega) L hB (by omega) 200 (by omega), Option.bind_some, same_few _ _ rfl (by omega) 200 (by omega), Option.bind_some, decide_eq_true rfl, if_pos rfl, if_pos rfl, if_pos rfl, skip_is L hB (by omega), Option.bind_some, refskip_is L hB (by omega) 200 (by omega), Option.bind_some, if_pos rfl, lives05, Option.bind_some]
end Go.Proofs.Ytbbgichpbjgifaa.Pure
