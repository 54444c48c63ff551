/- A part of a part is a part: for any matrix, any part of it, any part of that. No condition. -/
import Derived.Test.YtidpaaemfiopkaaLAround
import Derived.Test.YtidpaaemfiopkaaLLives03
import Derived.Test.YtidpaaemfiopkaaLSub
import Derived.Test.YtidpaaemfiopkaaLTab
import Derived.Test.YtidpaaemfiopkaaQ11
import Derived.Test.YtidpaaemfiopkaaQ12
import Derived.Test.YtidpaaemfiopkaaQ2
import Derived.Test.YtidpaaemfiopkaaQ3
import Derived.Test.YtidpaaemfiopkaaQ6
import Derived.Test.YtidpaaemfiopkaaQ9
namespace Go.Proofs.Ytidpaaemfiopkaa.Pure
open Go.RowKit Go.Proofs.Ytidpaaemfiopkaa.Q Go.Proofs.YtidpaaemfiopkaaW.PrintWords Go.Proofs.YtidpaaemfiopkaaW.PrintLast
theorem subm_rows (W H : Nat) (hW : 1 ≤ W ∧ W ≤ 64) (hH : 1 ≤ H ∧ H ≤ 64) (f : Nat → Nat → Int) (x y p q : Nat) (hx : x + p ≤ W) (hy : y + q ≤ H) (hp : 1 ≤ p) (b0 b1 : Int) :
    ∀ (d j k : Nat), j + d = q → d < k → rect_Matrix_Sub.l0 k (x : Int) (y : Int) (p : Int) (q : Int) (j : Int) (W : Int) (H : Int) (tab W H f) b0 b1 (tab p j (subF f x y)) = some (b0, b1, tab p q (subF f x y), true) := by
  intro d
  induction d with
  | zero =>
    intro j k hd hk
    obtain ⟨k, rfl⟩ : ∃ m, k = m + 1 := ⟨k - 1, by omega⟩
    have : j = q := by omega
    subst this
    rw [rect_Matrix_Sub.l0, if_neg (by omega)]
  | succ d ih =>
    intro j k hd hk
    obtain ⟨k, rfl⟩ : ∃ m, k = m + 1 := ⟨k - 1, by omega⟩
    have hm : j * p ≤ 64 * 64 := Nat.mul_le_mul (by omega) (by omega)
    rw [rect_Matrix_Sub.l0, if_pos (by omega), tw ((y : Int) + (j : Int)) (by omega) (by omega), show (y : Int) + (j : Int) = ((y + j : Nat) : Int) from by omega, row_is W H hW hH f x (y + j) p hx (by omega) hp, Option.bind_some, if_pos (by rw [tab_len, trow_len]; omega), tw ((j : Int) + 1) (by omega) (by omega)]
    exact ih (j + 1) k (by omega) (by omega)
theorem subm_is (W H k : Nat) (hW : 1 ≤ W ∧ W ≤ 64) (hH : 1 ≤ H ∧ H ≤ 64) (f : Nat → Nat → Int) (x y p q : Nat) (hf : fitP W H x y p q) (hk : 100 ≤ k) : rect_Matrix_Sub.f k (W : Int) (H : Int) (tab W H f) (x : Int) (y : Int) (p : Int) (q : Int) = some ((p : Int), (q : Int), tab p q (subF f x y), true) := by
  unfold rect_Matrix_Sub.f
  rw [inside_is _ _ _ _ _ _ _ (by omega) (by omega), Option.bind_some, decide_eq_true hf, if_pos rfl]
  unfold fitP at hf
  exact subm_rows W H hW hH f x y p q (by omega) (by omega) (by omega) p q q 0 k (by omega) (by omega)
theorem may_tab (w h : Nat) (hw : 1 ≤ w ∧ w ≤ 64) (hh : 1 ≤ h ∧ h ≤ 64) (f : Nat → Nat → Int) : rect_May.f (w : Int) (h : Int) (tab w h f) = some true := by
  have hm : h * w ≤ 64 * 64 := Nat.mul_le_mul hh.2 hw.2
  have e : wrap64 ((w : Int) * (h : Int)) = ((h * w : Nat) : Int) := by rw [← Int.natCast_mul, Nat.mul_comm, tw _ (by omega) (by omega)]
  unfold rect_May.f rect_sized.f
  rw [if_pos (by omega), if_pos (by omega), if_pos (by omega), if_pos (by omega), e, decide_eq_true (by omega), Option.bind_some, if_pos rfl, tab_len]
  simp
theorem around_nat (n : Int) (m : Nat) (hm : 1 ≤ m) (h : -9223372036854775808 ≤ n ∧ n ≤ 9223372036854775807) : ∃ x : Nat, x < m ∧ chequerref01_Around.f n (m : Int) = some (x : Int) := by
  obtain ⟨a, b⟩ := aroundZ_range n m (by omega)
  refine ⟨(aroundZ n m).toNat, by omega, ?_⟩
  rw [around_is n m h.1 h.2 (by omega), Int.toNat_of_nonneg a]
theorem wsub (a b : Nat) (h : b ≤ a) (ha : a ≤ 64) : wrap64 ((a : Int) - (b : Int)) = ((a - b : Nat) : Int) := by rw [tw _ (by omega) (by omega)]; omega
theorem wone (a : Nat) (ha : a ≤ 64) : wrap64 (1 + (a : Int)) = ((1 + a : Nat) : Int) := by rw [tw _ (by omega) (by omega)]; omega
theorem wadd (a b : Nat) (ha : a ≤ 64) (hb : b ≤ 64) : wrap64 ((a : Int) + (b : Int)) = ((a + b : Nat) : Int) := by rw [tw _ (by omega) (by omega)]; omega
set_option maxHeartbeats 1000000 in
theorem RectSubs : chequerlaw03_RectSubs.Pure := by
  intro m0 m1 l p0 p1 p2 p3 q0 q1 q2 q3 h0 h1 hl hx g0 g1 g2 g3 g4 g5 g6 g7
  obtain ⟨w, h, f, hw, hh, hG⟩ := good_is m0 m1 l 8 (by omega) (wf_i64 h0) (wf_i64 h1)
  refine ⟨60000, ?_⟩
  have e1 := hG 60000 (by omega)
  rw [show ((8 : Nat) : Int) = 8 from rfl] at e1
  obtain ⟨x, hx1, ex⟩ := around_nat p0 w hw.1 (wf_i64 g0)
  obtain ⟨y, hy1, ey⟩ := around_nat p1 h hh.1 (wf_i64 g1)
  obtain ⟨a, ha1, ea⟩ := around_nat p2 (w - x) (by omega) (wf_i64 g2)
  obtain ⟨b, hb1, eb⟩ := around_nat p3 (h - y) (by omega) (wf_i64 g3)
  obtain ⟨i, hi1, ei⟩ := around_nat q0 (1 + a) (by omega) (wf_i64 g4)
  obtain ⟨j, hj1, ej⟩ := around_nat q1 (1 + b) (by omega) (wf_i64 g5)
  obtain ⟨c, hc1, ec⟩ := around_nat q2 (1 + a - i) (by omega) (wf_i64 g6)
  obtain ⟨d, hd1, ed⟩ := around_nat q3 (1 + b - j) (by omega) (wf_i64 g7)
  have q1 : x ≤ w ∧ w ≤ 64 := by omega
  have q2 : y ≤ h ∧ h ≤ 64 := by omega
  have q3 : a ≤ 64 := by omega
  have q4 : b ≤ 64 := by omega
  have q5 : i ≤ 1 + a ∧ 1 + a ≤ 64 := by omega
  have q6 : j ≤ 1 + b ∧ 1 + b ≤ 64 := by omega
  have q7 : c ≤ 64 := by omega
  have q8 : d ≤ 64 := by omega
  have q9 : x ≤ 64 ∧ i ≤ 64 := by omega
  have q10 : y ≤ 64 ∧ j ≤ 64 := by omega
  have s1 := subm_is w h 60000 (by omega) (by omega) f x y (1 + a) (1 + b) (by unfold fitP; omega) (by omega)
  have s2 := fun k hk => subm_is (1 + a) (1 + b) k (by omega) (by omega) (subF f x y) i j (1 + c) (1 + d) (by unfold fitP; omega) hk
  have s3 := fun k hk => subm_is w h k (by omega) (by omega) f (x + i) (y + j) (1 + c) (1 + d) (by unfold fitP; omega) hk
  have et : tab (1 + c) (1 + d) (subF (subF f x y) i j) = tab (1 + c) (1 + d) (subF f (x + i) (y + j)) := tab_congr _ _ _ _ (fun u v _ _ => by show f (x + (i + u)) (y + (j + v)) = f (x + i + u) (y + j + v); rw [Nat.add_assoc, Nat.add_assoc])
  have hm : (1 + d) * (1 + c) ≤ 64 * 64 := Nat.mul_le_mul (by omega) (by omega)
  have s4 := fun k hk => has_is w h k (by omega) (by omega) f (x + i) (y + j) (1 + c) (1 + d) (subF f (x + i) (y + j)) hk
  have sb : (decide (fitP w h ((x + i : Nat) : Int) ((y + j : Nat) : Int) ((1 + c : Nat) : Int) ((1 + d : Nat) : Int)) && hasB f (1 + c) (1 + d) (subF f (x + i) (y + j)) (x + i) (y + j)) = true := by
    rw [decide_eq_true (by unfold fitP; omega), Bool.true_and]
    exact decide_eq_true rfl
  have hmay := may_tab (1 + a) (1 + b) (by omega) (by omega) (subF f x y)
  have hlen : (tab (1 + c) (1 + d) (subF f (x + i) (y + j))).length ≤ 5000 := by rw [tab_len]; omega
  have w1 := wsub w x q1.1 q1.2
  have w2 := wsub h y q2.1 q2.2
  have w3 := wone a q3
  have w4 := wone b q4
  have w5 := wsub (1 + a) i q5.1 q5.2
  have w6 := wsub (1 + b) j q6.1 q6.2
  have w7 := wone c q7
  have w8 := wone d q8
  have w9 := wadd x i q9.1 q9.2
  have w10 := wadd y j q10.1 q10.2
  clear q1 q2 q3 q4 q5 q6 q7 q8 q9 q10
  unfold chequerlaw03_RectSubs.f
  rw [e1, Option.bind_some]
  dsimp only
  rw [ex, Option.bind_some, ey, Option.bind_some]
  unfold chequerlaw03_of.f
  rw [Option.bind_some]
  dsimp only
  rw [w1, ea, Option.bind_some, w2, eb, Option.bind_some, w3, w4, s1, Option.bind_some]
  dsimp only
  rw [if_pos rfl, hmay, Option.bind_some, chequerlaw03_RectSubs.j0, if_neg (by decide), ei, Option.bind_some, ej, Option.bind_some, w5, ec, Option.bind_some, w6, ed, Option.bind_some, w7, w8, s2 _ (by decide), Option.bind_some]
  unfold chequerlaw03_of.f
  rw [Option.bind_some]
  dsimp only
  rw [w9, w10, s3 _ (by decide), Option.bind_some]
  dsimp only
  rw [if_pos rfl, if_pos rfl]
  unfold rect_Same.f
  rw [if_pos rfl, if_pos rfl, et, equal_is _ _ _ (Nat.le_trans hlen (by decide)) (Nat.lt_of_le_of_lt hlen (by decide)), decide_eq_true rfl, Option.bind_some, Option.bind_some, if_pos rfl, Option.bind_some]
  dsimp only
  rw [s4 _ (by decide), sb, Option.bind_some, if_pos rfl, lives03 _ (by decide)]
  rfl
end Go.Proofs.Ytidpaaemfiopkaa.Pure
