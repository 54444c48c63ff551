/- What is made of a pixel is the document's, or refused: for any numbers. No condition. -/
import Derived.Test.YtjpaabjhlaibfaaLAround
import Derived.Test.YtjpaabjhlaibfaaLLives01
import Derived.Test.YtjpaabjhlaibfaaLPixDo
import Derived.Test.YtjpaabjhlaibfaaLPixUn
import Derived.Test.YtjpaabjhlaibfaaQ17
namespace Go.Proofs.Ytjpaabjhlaibfaa.Pure
open Go.RowKit Go.Proofs.Ytjpaabjhlaibfaa.Q Go.Proofs.YtjpaabjhlaibfaaW.PrintWords Go.Proofs.YtjpaabjhlaibfaaW.PrintLast
theorem makes_l1_step (k : Nat) (fr t : Int) (xs : List Int) (fs : List S36) (i : Int) (froms : List Int) (m d0 d1 : Int) (hk : 20 ≤ k) (hi : 0 ≤ i) (hil : i < (xs.length : Int)) (hp : 0 ≤ rd xs i ∧ rd xs i ≤ 18446744073709551615) (hm : 0 ≤ m) (hm3 : m < 3) (hfl : (froms.length : Int) = 3) :
    chequerlaw01_PixMakes.l1 (k + 1) fr t xs fs i froms m d0 d1 = chequerlaw01_PixMakes.l1 k fr t xs fs i froms (m + 1) d0 d1 := by
  have w1 : wrap64 (m + 1) = m + 1 := wz _ (by omega) (by omega)
  rw [chequerlaw01_PixMakes.l1, if_pos hm3, if_pos hi, if_pos hil, if_pos hm, if_pos (by omega), scaled_is _ _ _ hp.1 hp.2 k (by omega), Option.bind_some, refscaled_is _ _ _ hp.1 hp.2 k (by omega), Option.bind_some, if_pos rfl, if_pos rfl, w1]
theorem makes_l1 (k : Nat) (fr t : Int) (xs : List Int) (fs : List S36) (i : Int) (froms : List Int) (d0 d1 : Int) (hk : 20 ≤ k) (hi : 0 ≤ i) (hi2 : i < 2) (hil : i < (xs.length : Int)) (hp : 0 ≤ rd xs i ∧ rd xs i ≤ 18446744073709551615) (hfl : (froms.length : Int) = 3) :
    chequerlaw01_PixMakes.l1 (k + 4) fr t xs fs i froms 0 d0 d1 = chequerlaw01_PixMakes.l0 k fr t xs fs (i + 1) d0 d1 := by
  have w1 : wrap64 (i + 1) = i + 1 := wz _ (by omega) (by omega)
  rw [makes_l1_step (k + 3) fr t xs fs i froms 0 d0 d1 (by omega) hi hil hp (by omega) (by omega) hfl, makes_l1_step (k + 2) fr t xs fs i froms _ d0 d1 (by omega) hi hil hp (by omega) (by omega) hfl, makes_l1_step (k + 1) fr t xs fs i froms _ d0 d1 (by omega) hi hil hp (by omega) (by omega) hfl, chequerlaw01_PixMakes.l1, if_neg (by omega), w1]
theorem makes_l0 (k : Nat) (fr t : Int) (xs : List Int) (fs : List S36) (i d0 d1 : Int) (hk : 20 ≤ k) (hi : 0 ≤ i) (hi2 : i < 2) (hil : i < (xs.length : Int)) (hfs : i < (fs.length : Int)) (hp : 0 ≤ rd xs i ∧ rd xs i ≤ 18446744073709551615) (hfr : -9223372036854775808 ≤ fr ∧ fr ≤ 9223372036854775807) :
    chequerlaw01_PixMakes.l0 (k + 6) fr t xs fs i d0 d1 = chequerlaw01_PixMakes.l0 k fr t xs fs (i + 1) d0 d1 := by
  rw [chequerlaw01_PixMakes.l0, if_pos hi2, if_pos hi, if_pos hil, gray_is _ hp.1 hp.2 _ (by omega), Option.bind_some, refgray_is _ hp.1 hp.2 _ (by omega), Option.bind_some, if_pos hfs, turned_is _ _ _ hp.1 hp.2 _ (by omega), Option.bind_some, refturned_is _ _ _ hp.1 hp.2 _ (by omega), Option.bind_some, if_pos rfl, if_pos rfl, if_pos rfl, bne_self_eq_false, chequerlaw01_PixMakes.j1, if_neg (by decide), around_is fr 65535 hfr.1 hfr.2 (by omega), Option.bind_some]
  exact makes_l1 k fr t xs fs i _ d0 d1 hk hi hi2 hil hp rfl
theorem PixMakes : chequerlaw01_PixMakes.Pure := by
  intro l0 c m p fr t h1 h1' h2 h3 h4 h5 h6 h7
  refine ⟨100, ?_⟩
  have m4 := wf_i64 h4
  have m5 := wf_u64 h5
  have m6 := wf_i64 h6
  have hm := maxZ_range m
  have hc := chanZ_or c
  obtain ⟨q, hq, q0, q1, ql, qp⟩ := good_pix l0 (chanZ c) (maxZ m) hc hm (fun y hy => wf_i64 (h2 y hy)) 100 (by omega)
  unfold chequerlaw01_PixMakes.f
  rw [form_is _ _ m4.1 m4.2, Option.bind_some, hq, Option.bind_some]
  have s0 := makes_l0 94 fr t [p, q] [(⟨c, m⟩ : S36), (⟨chanZ c, maxZ m⟩ : S36)] 0 (chanZ c) (maxZ m) (by omega) (by omega) (by omega) (by simp) (by simp) m5 m6
  have s1 := makes_l0 88 fr t [p, q] [(⟨c, m⟩ : S36), (⟨chanZ c, maxZ m⟩ : S36)] 1 (chanZ c) (maxZ m) (by omega) (by omega) (by omega) (by simp) (by simp) ⟨q0, q1⟩ m6
  refine s0.trans (s1.trans ?_)
  rw [chequerlaw01_PixMakes.l0, if_neg (by omega), lives01 _ (by omega)]
  rfl
end Go.Proofs.Ytjpaabjhlaibfaa.Pure
