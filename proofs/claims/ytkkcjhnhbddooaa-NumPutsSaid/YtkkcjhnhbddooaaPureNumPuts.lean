/- A number's bytes are the document's, or it is refused; they are got as it was, whatever is behind: for any number, any bytes behind. No condition. -/
import Derived.Test.YtkkcjhnhbddooaaInum_Put
import Derived.Test.YtkkcjhnhbddooaaLAround
import Derived.Test.YtkkcjhnhbddooaaLGet
import Derived.Test.YtkkcjhnhbddooaaLLives02
import Derived.Test.YtkkcjhnhbddooaaLPut
import Derived.Test.YtkkcjhnhbddooaaLStep
import Derived.Test.YtkkcjhnhbddooaaQ4
namespace Go.Proofs.Ytkkcjhnhbddooaa.Pure
open Go.RowKit Go.Proofs.Ytkkcjhnhbddooaa.Q Go.Proofs.YtkkcjhnhbddooaaW.PrintWords Go.Proofs.YtkkcjhnhbddooaaW.PrintLast
theorem NumPuts : chequerlaw02_NumPuts.Pure := by
  intro a0 l1 h0 h1 h1' h2
  obtain ⟨h0, h0'⟩ := wf_i64 h0
  obtain ⟨m0, m1⟩ := aroundZ_range a0 4611686018427387904 (by omega)
  obtain ⟨K, hK⟩ := refput_is a0 h0 h0'
  have hx : ∃ x, num_Put.f a0 = some x := by
    unfold num_Put.f
    split <;> exact ⟨_, rfl⟩
  obtain ⟨x, hx⟩ := hx
  refine ⟨K + 5000 + 1, ?_⟩
  unfold chequerlaw02_NumPuts.f
  rw [limit_is a0 h0 h0', Option.bind_some, hx, Option.bind_some, hK _ (by omega), hx, Option.bind_some]
  generalize aroundZ a0 4611686018427387904 = m at *
  rw [put_is m m0 (by omega), Option.bind_some, if_pos rfl, if_pos rfl]
  simp only [chequerlaw02_NumPuts.j0]
  obtain ⟨u, rfl⟩ := Int.eq_ofNat_of_zero_le m0
  rw [Int.toNat_natCast]
  have hlen : (num_putL u).length ≤ 9 := putL_len 8 u (by omega)
  have hmn : mn (l1.length : Int) 5 = ((min l1.length 5 : Nat) : Int) := by unfold mn; split <;> omega
  have hr : (l1.take (min l1.length 5)).length ≤ 5 := by rw [List.length_take]; omega
  rw [hmn, Int.toNat_natCast]
  have hb : ∀ y ∈ num_putL u ++ l1.take (min l1.length 5), 0 ≤ y ∧ y ≤ 255 := by
    intro y hy
    rcases List.mem_append.1 hy with h | h
    · exact putL_bytes u y h
    · exact wf_u8 (h2 y (List.mem_of_mem_take h))
  have hm : min l1.length 5 ≤ l1.length := by omega
  generalize min l1.length 5 = j at *
  rw [if_neg (by simp), List.nil_append, List.length_nil, if_pos (by omega), Option.bind_some, if_pos (by omega), if_pos (by omega), if_pos (by omega)]
  rw [get_is _ (by rw [List.length_append]; omega) hb _ (by omega), Option.bind_some, getS_put u 0 0 _ (by omega) (by omega) (by omega)]
  simp only [Nat.pow_zero, Nat.mul_one, Nat.zero_add]
  rw [if_pos trivial, if_pos trivial, if_pos trivial, lives02]
  rfl
end Go.Proofs.Ytkkcjhnhbddooaa.Pure
