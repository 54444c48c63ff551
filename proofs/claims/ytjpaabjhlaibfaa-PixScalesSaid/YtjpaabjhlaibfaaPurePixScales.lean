/- Scaled to a greater greatest sample, and back, a pixel is as it was; a greater sample is never scaled to a lesser one: for any numbers. No condition. -/
import Derived.Test.YtjpaabjhlaibfaaIpix_Unpack
import Derived.Test.YtjpaabjhlaibfaaLAround
import Derived.Test.YtjpaabjhlaibfaaLLives01
import Derived.Test.YtjpaabjhlaibfaaLPixDo
import Derived.Test.YtjpaabjhlaibfaaLPixUn
import Derived.Test.YtjpaabjhlaibfaaQ15
namespace Go.Proofs.Ytjpaabjhlaibfaa.Pure
open Go.RowKit Go.Proofs.Ytjpaabjhlaibfaa.Q Go.Proofs.YtjpaabjhlaibfaaW.PrintWords Go.Proofs.YtjpaabjhlaibfaaW.PrintLast
theorem scaled_one (p x fr t : Int) (hp : pixL p = [x]) (hx : 0 ≤ x ∧ x ≤ fr) (hf : 1 ≤ fr ∧ fr ≤ 65535) (ht : 1 ≤ t ∧ t ≤ 65535) : scaledZ p fr t = (scZ fr t x + 281474976710656, 0) ∧ 0 ≤ scZ fr t x ∧ scZ fr t x ≤ t := by
  obtain ⟨a, b, _, _⟩ := scZ_range fr t x hf ht hx
  refine ⟨?_, a, b⟩
  unfold scaledZ
  rw [hp, if_pos ⟨by simp, hf, ht, fun y hy => by simp at hy; omega⟩]
  exact pixP_1 _ (by omega)
/-- There and back. -/
theorem there_back (M n x : Int) (hM : 1 ≤ M) (hn : M ≤ n) (hx : 0 ≤ x ∧ x ≤ M) : scZ n M (scZ M n x) = x := by
  unfold scZ
  by_cases hMn : M = n
  · subst hMn
    have e : (x * M + M / 2) / M = x := by
      rw [Int.add_comm, Int.add_mul_ediv_right _ _ (by omega), Int.ediv_eq_zero_of_lt (by omega) (by omega)]
      simp
    rw [e, e]
  · have h1 := Int.emod_add_mul_ediv (x * n + M / 2) M
    have r0 := Int.emod_nonneg (x * n + M / 2) (show M ≠ 0 by omega)
    have r1 := Int.emod_lt_of_pos (x * n + M / 2) (show 0 < M by omega)
    generalize (x * n + M / 2) % M = r at *
    generalize (x * n + M / 2) / M = y at *
    have e : y * M + n / 2 = (M / 2 - r + n / 2) + x * n := by rw [Int.mul_comm y M]; omega
    rw [e, Int.add_mul_ediv_right _ _ (by omega), Int.ediv_eq_zero_of_lt (by omega) (by omega)]
    simp
theorem sc_lt (M n x y : Int) (hM : 1 ≤ M) (hn : M ≤ n) (hx : 0 ≤ x) (h : x < y) : scZ M n x < scZ M n y := by
  unfold scZ
  have a : x * n + n ≤ y * n := by
    have : (x + 1) * n ≤ y * n := Int.mul_le_mul_of_nonneg_right (by omega) (by omega)
    rw [Int.add_mul, Int.one_mul] at this
    exact this
  have b : (x * n + M / 2 + 1 * M) / M ≤ (y * n + M / 2) / M := Int.ediv_le_ediv (by omega) (by omega)
  rw [Int.add_mul_ediv_right _ _ (by omega)] at b
  omega
theorem PixScales : chequerlaw01_PixScales.Pure := by
  intro l0 l1 c m t h0 h0' w0 h1 h1' w1 h2 h3 h4
  refine ⟨100, ?_⟩
  have m3 := wf_i64 h3
  have m4 := wf_i64 h4
  have hm := maxZ_range m
  obtain ⟨p, hp, p0, p1, pl, pp⟩ := good_pix l0 1 (maxZ m) (.inl rfl) hm (fun y hy => wf_i64 (w0 y hy)) 100 (by omega)
  obtain ⟨q, hq, q0, q1, ql, qp⟩ := good_pix l1 1 (maxZ m) (.inl rfl) hm (fun y hy => wf_i64 (w1 y hy)) 100 (by omega)
  have gx := gd_range l0 (maxZ m) 0 hm.1
  have gy := gd_range l1 (maxZ m) 0 hm.1
  unfold goodL at pl ql pp qp
  rw [if_pos rfl] at pl ql pp qp
  unfold chequerlaw01_PixScales.f
  have wm : wrap64 (65536 - maxZ m) = 65536 - maxZ m := wz _ (by omega) (by omega)
  have ar := aroundZ_range t (65536 - maxZ m) (by omega)
  rw [form_is _ _ m3.1 m3.2, Option.bind_some, wm, around_is t _ m4.1 m4.2 (by omega), Option.bind_some, hp, Option.bind_some, hq, Option.bind_some]
  clear hp hq wm
  generalize gd l0 (maxZ m) 0 = x at *
  generalize gd l1 (maxZ m) 0 = y at *
  generalize aroundZ t (65536 - maxZ m) = z at *
  generalize maxZ m = M at *
  have wn : wrap64 (M + z) = M + z := wz _ (by omega) (by omega)
  rw [wn]
  clear wn
  have hn : M ≤ M + z := by omega
  have hn2 : 1 ≤ M + z ∧ M + z ≤ 65535 := by omega
  generalize M + z = n at *
  obtain ⟨sp, sp0, sp1⟩ := scaled_one p x M n pl gx hm hn2
  obtain ⟨sq, sq0, sq1⟩ := scaled_one q y M n ql gy hm hn2
  have la := pixL_1 (scZ M n x) (by omega)
  obtain ⟨sa, sa0, sa1⟩ := scaled_one (scZ M n x + 281474976710656) (scZ M n x) n M la ⟨sp0, sp1⟩ hn2 hm
  have tb := there_back M n x hm.1 hn gx
  rw [tb] at sa
  have px : p = x + 281474976710656 := by
    rw [pixP_1 x (by omega)] at pp
    exact (Prod.mk.inj pp).1.symm
  have qy : q = y + 281474976710656 := by
    rw [pixP_1 y (by omega)] at qp
    exact (Prod.mk.inj qp).1.symm
  have hlt : (p < q) = (scZ M n x + 281474976710656 < scZ M n y + 281474976710656) := by
    apply propext
    constructor
    · intro h
      have := sc_lt M n x y hm.1 hn gx.1 (by omega)
      omega
    · intro h
      rcases Int.lt_trichotomy x y with h' | h' | h'
      · omega
      · subst h'; omega
      · have := sc_lt M n y x hm.1 hn gy.1 h'
        omega
  rw [scaled_is p M n p0 p1 _ (by omega), Option.bind_some, sp]
  dsimp only
  rw [scaled_is _ n M (by omega) (by omega) _ (by omega), Option.bind_some, sa, scaled_is q M n q0 q1 _ (by omega), Option.bind_some, sq, if_pos rfl, if_pos rfl, if_pos px.symm]
  simp only [hlt, beq_self_eq_true, if_true]
  rw [lives01 _ (by omega)]
  rfl
end Go.Proofs.Ytjpaabjhlaibfaa.Pure
