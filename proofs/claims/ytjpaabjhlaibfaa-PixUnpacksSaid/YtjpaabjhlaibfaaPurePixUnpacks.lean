/- A pixel's samples are the document's, and make it again: for any number, any format. No condition. -/
import Derived.Test.YtjpaabjhlaibfaaIpix_Unpack
import Derived.Test.YtjpaabjhlaibfaaLAround
import Derived.Test.YtjpaabjhlaibfaaLLives01
import Derived.Test.YtjpaabjhlaibfaaLPix
import Derived.Test.YtjpaabjhlaibfaaLPixMore
import Derived.Test.YtjpaabjhlaibfaaLPixUn
import Derived.Test.YtjpaabjhlaibfaaLSame
import Derived.Test.YtjpaabjhlaibfaaQ10
namespace Go.Proofs.Ytjpaabjhlaibfaa.Pure
open Go.RowKit Go.Proofs.Ytjpaabjhlaibfaa.Q Go.Proofs.YtjpaabjhlaibfaaW.PrintWords Go.Proofs.YtjpaabjhlaibfaaW.PrintLast
theorem pixUnpacks_end (p : Int) (h0 : 0 ≤ p) (h1 : p ≤ 18446744073709551615) : chequerlaw01_PixUnpacks.j0 2000000 p (pixL p) false = some true := by
  rw [chequerlaw01_PixUnpacks.j0, if_neg (by decide)]
  by_cases h : pixL p = []
  · rw [h, if_pos (by rfl), lives01 _ (by omega)]
    rfl
  · rw [if_neg (by have := List.length_pos_iff.2 h; omega), pixpack_is _ _ (by omega), pixP_pixL p h0 h1 h, Option.bind_some, if_pos rfl, if_pos rfl, lives01 _ (by omega)]
    rfl
theorem PixUnpacks : chequerlaw01_PixUnpacks.Pure := by
  intro p c m h0 h1 h2
  refine ⟨2000000, ?_⟩
  have mp := wf_u64 h0
  have mm := wf_i64 h2
  have hm := maxZ_range m
  have hc := chanZ_or c
  have hl := pixL_len p
  have hf : formP (chanZ c) (maxZ m) = true := by unfold formP; exact decide_eq_true ⟨hc, hm⟩
  unfold chequerlaw01_PixUnpacks.f
  rw [pixunpack_is p mp.1 mp.2, Option.bind_some, form_is _ _ mm.1 mm.2, Option.bind_some, refunpack_is p mp.1 mp.2, Option.bind_some, same_is _ _ (by omega) _ (by omega), Option.bind_some, if_pos (decide_eq_true rfl), pixmay_is p mp.1 mp.2, Option.bind_some, refmay_is p mp.1 mp.2, Option.bind_some,
    fits_is p c m mp.1 mp.2 _ (by omega), Option.bind_some, reffits_is p c m mp.1 mp.2 _ (by omega), Option.bind_some, fits_is p _ _ mp.1 mp.2 _ (by omega), Option.bind_some, reffits_is p _ _ mp.1 mp.2 _ (by omega), Option.bind_some, format_is, Option.bind_some, refformat_is, Option.bind_some, format_is, Option.bind_some, hf]
  simp only [bne_self_eq_false, Bool.false_eq_true, if_false, Bool.not_true]
  exact pixUnpacks_end p mp.1 mp.2
end Go.Proofs.Ytjpaabjhlaibfaa.Pure
