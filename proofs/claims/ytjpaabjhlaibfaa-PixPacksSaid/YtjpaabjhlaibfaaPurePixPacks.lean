/- The pixel of samples is the document's, or refused: for any numbers. No condition. -/
import Derived.Test.YtjpaabjhlaibfaaIpix_May
import Derived.Test.YtjpaabjhlaibfaaIpix_Unpack
import Derived.Test.YtjpaabjhlaibfaaLAround
import Derived.Test.YtjpaabjhlaibfaaLLives01
import Derived.Test.YtjpaabjhlaibfaaLPix
import Derived.Test.YtjpaabjhlaibfaaLSame
import Derived.Test.YtjpaabjhlaibfaaQ5
namespace Go.Proofs.Ytjpaabjhlaibfaa.Pure
open Go.RowKit Go.Proofs.Ytjpaabjhlaibfaa.Q Go.Proofs.YtjpaabjhlaibfaaW.PrintWords Go.Proofs.YtjpaabjhlaibfaaW.PrintLast
theorem pixPacks_j0 (l : List Int) (hw : ∀ x ∈ l, -9223372036854775808 ≤ x ∧ x ≤ 9223372036854775807) : chequerlaw01_PixPacks.j0 2000000 l = some true := by
  rw [chequerlaw01_PixPacks.j0, pixpack_is l _ (by omega), refpixpack_is l _ (by omega), Option.bind_some, Option.bind_some, if_pos rfl, if_pos rfl, chequerlaw01_PixPacks.j1]
  by_cases hz : (l.length : Int) = 0
  · rw [beq_iff_eq.2 hz, if_pos rfl, if_pos rfl, if_pos rfl, lives01 _ (by omega)]
    rfl
  · rw [beq_eq_false_iff_ne.2 hz, if_neg (by decide), if_pos (by omega)]
    have h0 : -9223372036854775808 ≤ rd l 0 ∧ rd l 0 ≤ 9223372036854775807 := by
      cases l with
      | nil => simp at hz
      | cons x r => exact hw x (List.mem_cons_self)
    obtain ⟨m0, m1⟩ := aroundZ_range (rd l 0) 65536 (by omega)
    rw [around_is _ 65536 h0.1 h0.2 (by omega), Option.bind_some, pixpack_is _ _ (by omega), Option.bind_some]
    generalize aroundZ (rd l 0) 65536 = a at *
    have hin : inS a := ⟨m0, by omega⟩
    have hp : pixP [a] = (a + 281474976710656, 0) := by simp only [pixP]; rw [if_pos hin]
    have hL : pixL (a + 281474976710656) = [a] := by
      unfold pixL
      rw [if_neg (by omega), if_pos (by omega)]
      congr 1
      omega
    have hu : pix_Unpack.f (a + 281474976710656) = some [a] := by unfold pix_Unpack.f; rw [if_pos (by omega), hL]
    have hm : pix_May.f (a + 281474976710656) = some true := by unfold pix_May.f; rw [if_pos (by omega), hL]; rfl
    rw [hp, hu, Option.bind_some, if_pos rfl, same_is _ _ (by simp) _ (by omega), Option.bind_some, if_pos (by simp), hm, Option.bind_some, if_pos rfl, lives01 _ (by omega)]
    rfl
theorem PixPacks : chequerlaw01_PixPacks.Pure := by
  intro l0 h1 h1' h2
  refine ⟨2000000, ?_⟩
  unfold chequerlaw01_PixPacks.f
  by_cases h : (l0.length : Int) > 4
  · rw [if_pos h, if_pos (by omega)]
    exact pixPacks_j0 _ (fun x hx => wf_i64 (h2 x (List.mem_of_mem_take hx)))
  · rw [if_neg h]
    exact pixPacks_j0 _ (fun x hx => wf_i64 (h2 x hx))
end Go.Proofs.Ytjpaabjhlaibfaa.Pure
