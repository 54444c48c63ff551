/- Pixels are the same just if they have the same samples; their row is an order: for any numbers, any format. No condition. -/
import Derived.Test.YtjpaabjhlaibfaaIpix_Unpack
import Derived.Test.YtjpaabjhlaibfaaLAround
import Derived.Test.YtjpaabjhlaibfaaLLives01
import Derived.Test.YtjpaabjhlaibfaaLPixUn
import Derived.Test.YtjpaabjhlaibfaaLSame
import Derived.Test.YtjpaabjhlaibfaaQ11
import Derived.Test.YtjpaabjhlaibfaaQ3
namespace Go.Proofs.Ytjpaabjhlaibfaa.Pure
open Go.RowKit Go.Proofs.Ytjpaabjhlaibfaa.Q Go.Proofs.YtjpaabjhlaibfaaW.PrintWords Go.Proofs.YtjpaabjhlaibfaaW.PrintLast
def cmpZ (a b : Int) : Int := if a < b then -1 else if a > b then 1 else 0
theorem compare_is (a b : Int) : pix_Compare.f a b = some (cmpZ a b) := by
  unfold pix_Compare.f api_Pixel_34.f api_Pixel_38.f cmpZ
  simp
  split
  · rfl
  · split <;> rfl
theorem PixRow : chequerlaw01_PixRow.Pure := by
  intro l0 l1 l2 a3_0 a3_1 h0 h0' w0 h1 h1' w1 h2 h2' w2 h3 h4
  refine ⟨2000000, ?_⟩
  have m4 := wf_i64 h4
  have hm := maxZ_range a3_1
  have hc := chanZ_or a3_0
  obtain ⟨x, hx, x0, x1, xl, xp⟩ := good_pix l0 (chanZ a3_0) (maxZ a3_1) hc hm (fun y hy => wf_i64 (w0 y hy)) 2000000 (by omega)
  obtain ⟨y, hy, y0, y1, yl, yp⟩ := good_pix l1 (chanZ a3_0) (maxZ a3_1) hc hm (fun y hy => wf_i64 (w1 y hy)) 2000000 (by omega)
  obtain ⟨z, hz, z0, z1, zl, zp⟩ := good_pix l2 (chanZ a3_0) (maxZ a3_1) hc hm (fun y hy => wf_i64 (w2 y hy)) 2000000 (by omega)
  have xn : pixL x ≠ [] := by
    have := goodL_len l0 (chanZ a3_0) (maxZ a3_1) hc
    intro e
    rw [← xl, e] at this
    simp at this
    omega
  have same : chequerref01_Same.f 2000000 (pixL x) (pixL y) = some (decide (pixL x = pixL y)) := same_is _ _ (by have := pixL_len x; omega) _ (by omega)
  have hs : (pixL x = pixL y) = (x = y) := propext ⟨fun e => pixL_inj x y x0 x1 y0 y1 xn e, fun e => by rw [e]⟩
  unfold chequerlaw01_PixRow.f
  rw [form_is _ _ m4.1 m4.2, Option.bind_some, hx, Option.bind_some, hy, Option.bind_some, hz, Option.bind_some, compare_is, Option.bind_some, pixunpack_is x x0 x1, Option.bind_some, pixunpack_is y y0 y1, Option.bind_some, same, Option.bind_some, compare_is, Option.bind_some, compare_is, Option.bind_some, compare_is, Option.bind_some, lives01 _ (by omega), Option.bind_some]
  simp only [hs]
  clear same hs hx hy hz xl yl zl xp yp zp
  have w1' : wrap64 (-1) = -1 := wz _ (by omega) (by omega)
  have w2' : wrap64 (-(-1)) = 1 := (wz _ (by omega) (by omega)).trans (by omega)
  have w3' : wrap64 (-0) = 0 := (wz _ (by omega) (by omega)).trans (by omega)
  unfold cmpZ
  by_cases c1 : x < y
  · rw [if_pos c1, if_neg (show ¬ y < x by omega), if_pos (show y > x by omega), w2', decide_eq_false (show ¬ x = y by omega), decide_eq_true c1]
    by_cases c2 : y < z
    · rw [if_pos c2, if_pos (show x < z by omega)]; rfl
    · rw [if_neg c2]
      by_cases c3 : y > z
      · rw [if_pos c3]; rfl
      · rw [if_neg c3, if_pos (show x < z by omega)]; rfl
  · rw [if_neg c1, decide_eq_false c1]
    by_cases c2 : x > y
    · rw [if_pos c2, if_pos (show y < x from c2), w1', decide_eq_false (show ¬ x = y by omega)]; rfl
    · rw [if_neg c2, if_neg (show ¬ y < x from c2), if_neg (show ¬ y > x by omega), w3', decide_eq_true (show x = y by omega)]
      obtain rfl : x = y := by omega
      by_cases c3 : x < z
      · rw [if_pos c3]; rfl
      · rw [if_neg c3]
        by_cases c4 : x > z
        · rw [if_pos c4]; rfl
        · rw [if_neg c4]; rfl
end Go.Proofs.Ytjpaabjhlaibfaa.Pure
