/- What is made gray lies between the least and the greatest sample: for any numbers, any format. No condition. -/
import Derived.Test.YtjpaabjhlaibfaaLAround
import Derived.Test.YtjpaabjhlaibfaaLLives01
import Derived.Test.YtjpaabjhlaibfaaLPix
import Derived.Test.YtjpaabjhlaibfaaLPixUn
import Derived.Test.YtjpaabjhlaibfaaQ6
import Derived.Test.YtjpaabjhlaibfaaQ7
namespace Go.Proofs.Ytjpaabjhlaibfaa.Pure
open Go.RowKit Go.Proofs.Ytjpaabjhlaibfaa.Q Go.Proofs.YtjpaabjhlaibfaaW.PrintWords Go.Proofs.YtjpaabjhlaibfaaW.PrintLast
theorem gray_mid (a b c : Int) (ha : 0 ≤ a ∧ a ≤ 65535) (hb : 0 ≤ b ∧ b ≤ 65535) (hc : 0 ≤ c ∧ c ≤ 65535) :
    ∃ q, wrap64 (Int.tdiv (wrap64 ((wrap64 ((wrap64 ((wrap64 (299 * a)) + (wrap64 (587 * b)))) + (wrap64 (114 * c)))) + 500)) 1000) = q ∧ mn (mn a b) c ≤ q ∧ q ≤ mx (mx a b) c ∧ 0 ≤ q ∧ q ≤ 65535 := by
  have h1 : mn (mn a b) c ≤ (299 * a + 587 * b + 114 * c + 500) / 1000 ∧ (299 * a + 587 * b + 114 * c + 500) / 1000 ≤ mx (mx a b) c ∧ 0 ≤ (299 * a + 587 * b + 114 * c + 500) / 1000 ∧ (299 * a + 587 * b + 114 * c + 500) / 1000 ≤ 65535 := by
    unfold mn mx
    repeat' split
    all_goals omega
  have h2 : 0 ≤ 299 * a + 587 * b + 114 * c + 500 ∧ 299 * a + 587 * b + 114 * c + 500 ≤ 100000000 := by omega
  refine ⟨_, ?_, h1⟩
  rw [wz (299 * a) (by omega) (by omega), wz (587 * b) (by omega) (by omega), wz (299 * a + 587 * b) (by omega) (by omega), wz (114 * c) (by omega) (by omega), wz (299 * a + 587 * b + 114 * c) (by omega) (by omega), wz (299 * a + 587 * b + 114 * c + 500) (by omega) (by omega), Int.tdiv_eq_ediv_of_nonneg h2.1, wz _ (by omega) (by omega)]
theorem PixGrays : chequerlaw01_PixGrays.Pure := by
  intro l0 a1_0 a1_1 h1 h1' h2 h3 h4
  refine ⟨100, ?_⟩
  have m4 := wf_i64 h4
  have hl : ∀ y ∈ l0, -9223372036854775808 ≤ y ∧ y ≤ 9223372036854775807 := fun y hy => wf_i64 (h2 y hy)
  have hm := maxZ_range a1_1
  obtain ⟨p, hp, p0, p1, pl, pp⟩ := good_pix l0 3 (maxZ a1_1) (.inr rfl) hm hl 100 (by omega)
  have g := fun i => gd_range l0 (maxZ a1_1) i hm.1
  have hg : goodL l0 3 (maxZ a1_1) = [gd l0 (maxZ a1_1) 0, gd l0 (maxZ a1_1) 1, gd l0 (maxZ a1_1) 2] := by unfold goodL; rw [if_neg (by decide)]
  rw [hg] at pl
  have ga := g 0
  have gb := g 1
  have gc := g 2
  clear g hg pp
  unfold chequerlaw01_PixGrays.f
  rw [form_is _ _ m4.1 m4.2, Option.bind_some, hp, Option.bind_some, refunpack_is p p0 p1, Option.bind_some, pl]
  unfold pix_Gray.f
  rw [pixunpack_is p p0 p1, Option.bind_some, pl]
  clear pl hp
  generalize gd l0 (maxZ a1_1) 0 = a at *
  generalize gd l0 (maxZ a1_1) 1 = b at *
  generalize gd l0 (maxZ a1_1) 2 = c at *
  obtain ⟨q, hq, q0, q1, q2, q3⟩ := gray_mid a b c ⟨ga.1, by omega⟩ ⟨gb.1, by omega⟩ ⟨gc.1, by omega⟩
  rw [show (([a, b, c] : List Int).length : Int) = 3 from rfl, show rd [a, b, c] 0 = a from rfl, show rd [a, b, c] 1 = b from rfl, show rd [a, b, c] 2 = c from rfl, if_neg (by decide), if_pos rfl, if_pos (by decide), if_pos (by decide), if_pos (by decide), hq, pixpack_is [q] 100 (by omega), pixP_1 q ⟨q2, q3⟩, Option.bind_some, Option.bind_some]
  dsimp only
  rw [pixunpack_is _ (by omega) (by omega), pixL_1 q ⟨q2, q3⟩, Option.bind_some, if_pos rfl, show (([q] : List Int).length : Int) = 1 from rfl, if_pos rfl, if_pos rfl, if_pos (by decide), if_pos (by decide), if_pos (by decide), if_pos (by decide), show rd [q] 0 = q from rfl, if_pos q0, if_pos q1, lives01 _ (by omega)]
  rfl
end Go.Proofs.Ytjpaabjhlaibfaa.Pure
