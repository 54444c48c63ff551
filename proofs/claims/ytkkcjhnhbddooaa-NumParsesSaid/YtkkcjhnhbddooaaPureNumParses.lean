/- The number of a text, or its error, is the document's; a number's digits are read as it was: for any text, any greatest number, any number. No condition. -/
import Derived.Test.YtkkcjhnhbddooaaInum_Decimal
import Derived.Test.YtkkcjhnhbddooaaInum_Parse
import Derived.Test.YtkkcjhnhbddooaaLAround
import Derived.Test.YtkkcjhnhbddooaaLDecimal
import Derived.Test.YtkkcjhnhbddooaaLLives02
import Derived.Test.YtkkcjhnhbddooaaLParse
import Derived.Test.YtkkcjhnhbddooaaLStep
import Derived.Test.YtkkcjhnhbddooaaQ12
namespace Go.Proofs.Ytkkcjhnhbddooaa.Pure
open Go.RowKit Go.Proofs.Ytkkcjhnhbddooaa.Q Go.Proofs.YtkkcjhnhbddooaaW.PrintWords Go.Proofs.YtkkcjhnhbddooaaW.PrintLast
theorem numParses_j0 (s : ByteArray) (hs : s.size ≤ 30) (a1 a2 : Int) (h1 : -9223372036854775808 ≤ a1) (h1' : a1 ≤ 9223372036854775807) (h2 : -9223372036854775808 ≤ a2) (h2' : a2 ≤ 9223372036854775807) : chequerlaw02_NumParses.j0 2000 s a1 a2 = some true := by
  obtain ⟨m0, m1⟩ := aroundZ_range a1 4611686018427387904 (by omega)
  obtain ⟨n0, n1⟩ := aroundZ_range a2 4611686018427387904 (by omega)
  simp only [chequerlaw02_NumParses.j0]
  rw [limit_is a1 h1 h1', limit_is a2 h2 h2', Option.bind_some, Option.bind_some]
  generalize aroundZ a1 4611686018427387904 = m at *
  generalize aroundZ a2 4611686018427387904 = n at *
  obtain ⟨u, rfl⟩ := Int.eq_ofNat_of_zero_le n0
  have hd : num_Decimal.f (u : Int) = some (strOfNums (num_decR u).reverse) := by unfold num_Decimal.f; rw [if_pos ⟨by omega, by omega⟩, decL_nat]
  have hl : (num_decR u).length ≤ 20 := by
    have := decR_len 18 u (by omega)
    omega
  have hb : ∀ x ∈ (num_decR u).reverse, 0 ≤ x ∧ x ≤ 255 := fun x hx => decR_bytes u x (List.mem_reverse.1 hx)
  have h00 : ((⟨#[48, 48]⟩ : ByteArray) ++ strOfNums (num_decR u).reverse) = strOfNums ([48, 48] ++ (num_decR u).reverse) := by rw [strOfNums_app]; rfl
  have hne := decR_ne u
  have p1 : num_Parse.f (strOfNums ([48, 48] ++ (num_decR u).reverse)) m = some (if (u : Int) ≤ m then ((u : Int), 0) else (0, 4)) := by
    rw [parse_is _ m m0 (by omega), strOfNums_size, if_neg (by simp), bytesZ_str _ (by
      intro x hx
      rcases List.mem_append.1 hx with h | h
      · simp at h; omega
      · exact hb x h), parseS_app]
    have e : parseS m [48, 48] 0 = (0, 0) := by
      have s0 : stepS 0 48 m = (0, 0) := by
        have := stepS_digit 0 m 0 (by omega)
        rw [if_neg (by simpa using m0)] at this
        simpa using this
      unfold parseS
      rw [s0]
      simp only [if_true]
      unfold parseS
      rw [s0]
      simp only [if_true]
      rfl
    rw [e, if_pos rfl, parseS_dec m m0 u]
  have p2 : num_Parse.f (strOfNums (num_decR u).reverse) (u : Int) = some ((u : Int), 0) := by
    rw [parse_is _ _ n0 (by omega), strOfNums_size, if_neg (by rw [List.length_reverse]; omega), bytesZ_str _ hb, parseS_dec _ n0 u, if_pos (by omega)]
  rw [parse_is s m m0 (by omega), refparse_is s m m0 (by omega) (by omega) _ (by omega), hd, Option.bind_some, Option.bind_some, Option.bind_some, h00, p1, Option.bind_some, Option.bind_some, p2, strOfNums_size, List.length_reverse, if_pos (by omega), Option.bind_some, lives02]
  by_cases h : (u : Int) ≤ m
  · simp [h]
  · simp [h]
theorem NumParses : chequerlaw02_NumParses.Pure := by
  intro a0 a1 a2 h0 h1 h2
  obtain ⟨h1, h1'⟩ := wf_i64 h1
  obtain ⟨h2, h2'⟩ := wf_i64 h2
  refine ⟨2000, ?_⟩
  unfold chequerlaw02_NumParses.f
  by_cases h : (a0.size : Int) > 30
  · rw [if_pos h, if_pos (by omega), if_pos (by omega)]
    exact numParses_j0 _ (by rw [ByteArray.size_extract]; omega) a1 a2 h1 h1' h2 h2'
  · rw [if_neg h]
    exact numParses_j0 _ (by omega) a1 a2 h1 h1' h2 h2'
end Go.Proofs.Ytkkcjhnhbddooaa.Pure
