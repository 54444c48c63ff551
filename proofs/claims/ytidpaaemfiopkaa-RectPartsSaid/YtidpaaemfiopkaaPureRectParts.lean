/- A number, a part, and whether another one is there, is the document's: for any two matrices, any place, any width and height. No condition. -/
import Derived.Test.YtidpaaemfiopkaaLAround
import Derived.Test.YtidpaaemfiopkaaLLives03
import Derived.Test.YtidpaaemfiopkaaLSub
import Derived.Test.YtidpaaemfiopkaaLTab
import Derived.Test.YtidpaaemfiopkaaQ11
import Derived.Test.YtidpaaemfiopkaaQ13
import Derived.Test.YtidpaaemfiopkaaQ14
import Derived.Test.YtidpaaemfiopkaaQ2
import Derived.Test.YtidpaaemfiopkaaQ3
import Derived.Test.YtidpaaemfiopkaaQ5
import Derived.Test.YtidpaaemfiopkaaQ6
namespace Go.Proofs.Ytidpaaemfiopkaa.Pure
open Go.RowKit Go.Proofs.Ytidpaaemfiopkaa.Q Go.Proofs.YtidpaaemfiopkaaW.PrintWords Go.Proofs.YtidpaaemfiopkaaW.PrintLast
set_option linter.unusedVariables false
theorem partm_rows (W H : Nat) (hW : 1 ≤ W ∧ W ≤ 64) (hH : 1 ≤ H ∧ H ≤ 64) (f : Nat → Nat → Int) (x y p q : Nat) (hx : x + p ≤ W) (hy : y + q ≤ H) (hp : 1 ≤ p) (b0 b1 : Int) :
    ∀ (d j k : Nat), j + d = q → d < k → rect_Matrix_Sub.l0 k (x : Int) (y : Int) (p : Int) (q : Int) (j : Int) (W : Int) (H : Int) (tab W H f) b0 b1 (tab p j (subF f x y)) = some (b0, b1, tab p q (subF f x y), true) := by
  intro d
  induction d with
  | zero =>
    intro j k hd hk
    obtain ⟨k, rfl⟩ : ∃ m, k = m + 1 := ⟨k - 1, by omega⟩
    have : j = q := by omega
    subst this
    rw [rect_Matrix_Sub.l0, if_neg (by omega)]
  | succ d ih =>
    intro j k hd hk
    obtain ⟨k, rfl⟩ : ∃ m, k = m + 1 := ⟨k - 1, by omega⟩
    have hm : j * p ≤ 64 * 64 := Nat.mul_le_mul (by omega) (by omega)
    rw [rect_Matrix_Sub.l0, if_pos (by omega), tw ((y : Int) + (j : Int)) (by omega) (by omega), show (y : Int) + (j : Int) = ((y + j : Nat) : Int) from by omega, row_is W H hW hH f x (y + j) p hx (by omega) hp, Option.bind_some, if_pos (by rw [tab_len, trow_len]; omega), tw ((j : Int) + 1) (by omega) (by omega)]
    exact ih (j + 1) k (by omega) (by omega)
def partV (W H : Nat) (f : Nat → Nat → Int) (x y p q : Int) : Int × Int × List Int × Bool := if fitP W H x y p q then (p, q, tab p.toNat q.toNat (subF f x.toNat y.toNat), true) else (0, 0, [], false)
theorem partm_is (W H k : Nat) (hW : 1 ≤ W ∧ W ≤ 64) (hH : 1 ≤ H ∧ H ≤ 64) (f : Nat → Nat → Int) (x y p q : Int) (hk : 100 ≤ k) : rect_Matrix_Sub.f k (W : Int) (H : Int) (tab W H f) x y p q = some (partV W H f x y p q) := by
  unfold rect_Matrix_Sub.f partV
  rw [inside_is _ _ _ _ _ _ _ (by omega) (by omega), Option.bind_some]
  by_cases c : fitP W H x y p q
  · rw [decide_eq_true c, if_pos rfl, if_pos c]
    unfold fitP at c
    obtain ⟨x, rfl⟩ : ∃ n : Nat, x = (n : Int) := ⟨x.toNat, by omega⟩
    obtain ⟨y, rfl⟩ : ∃ n : Nat, y = (n : Int) := ⟨y.toNat, by omega⟩
    obtain ⟨p, rfl⟩ : ∃ n : Nat, p = (n : Int) := ⟨p.toNat, by omega⟩
    obtain ⟨q, rfl⟩ : ∃ n : Nat, q = (n : Int) := ⟨q.toNat, by omega⟩
    exact partm_rows W H hW hH f x y p q (by omega) (by omega) (by omega) p q q 0 k (by omega) (by omega)
  · rw [decide_eq_false c, if_neg (by decide), if_neg c]
theorem refpart_is (W H k : Nat) (hW : 1 ≤ W ∧ W ≤ 64) (hH : 1 ≤ H ∧ H ≤ 64) (f : Nat → Nat → Int) (x y p q : Int) (hk : 4302 ≤ k) : chequerref03_Sub.f k (W : Int) (H : Int) (tab W H f) x y p q = some (partV W H f x y p q) := by
  unfold partV
  by_cases c : fitP W H x y p q
  · rw [if_pos c]
    have c' := c
    unfold fitP at c'
    obtain ⟨x, rfl⟩ : ∃ n : Nat, x = (n : Int) := ⟨x.toNat, by omega⟩
    obtain ⟨y, rfl⟩ : ∃ n : Nat, y = (n : Int) := ⟨y.toNat, by omega⟩
    obtain ⟨p, rfl⟩ : ∃ n : Nat, p = (n : Int) := ⟨p.toNat, by omega⟩
    obtain ⟨q, rfl⟩ : ∃ n : Nat, q = (n : Int) := ⟨q.toNat, by omega⟩
    exact refsub_is W H k hW hH f x y p q c hk
  · rw [if_neg c, refsub_no W H k hW hH _ x y p q c hk]
def numV (W H : Nat) (f : Nat → Nat → Int) (x y : Int) : Int × Bool := if (0 ≤ x ∧ x < W) ∧ (0 ≤ y ∧ y < H) then (f x.toNat y.toNat, true) else (0, false)
theorem num_is (W H : Nat) (hW : 1 ≤ W ∧ W ≤ 64) (hH : 1 ≤ H ∧ H ≤ 64) (f : Nat → Nat → Int) (x y : Int) : rect_Matrix_At.f (W : Int) (H : Int) (tab W H f) x y = some (numV W H f x y) := by
  unfold numV
  by_cases c : (0 ≤ x ∧ x < W) ∧ (0 ≤ y ∧ y < H)
  · rw [if_pos c]
    obtain ⟨x, rfl⟩ : ∃ n : Nat, x = (n : Int) := ⟨x.toNat, by omega⟩
    obtain ⟨y, rfl⟩ : ∃ n : Nat, y = (n : Int) := ⟨y.toNat, by omega⟩
    have hx : x < W := by omega
    have hy : y < H := by omega
    have hm : H * W ≤ 64 * 64 := Nat.mul_le_mul (by omega) (by omega)
    have hl := lt_mul hx hy
    unfold rect_Matrix_At.f rect_in.f
    rw [if_pos (by omega), Option.bind_some, decide_eq_true (by omega), if_pos rfl, if_pos (by omega), Option.bind_some, decide_eq_true (by omega), if_pos rfl, idx_w W y x (by omega) (by omega) (by omega), if_pos (by omega), if_pos (by rw [tab_len]; omega), tab_rd W H f x y hx hy, Int.toNat_natCast, Int.toNat_natCast]
  · rw [if_neg c]
    unfold rect_Matrix_At.f rect_in.f
    by_cases c1 : x ≥ 0
    · rw [if_pos c1, Option.bind_some]
      by_cases c2 : x < W
      · rw [decide_eq_true c2, if_pos rfl]
        by_cases c3 : y ≥ 0
        · rw [if_pos c3, Option.bind_some, decide_eq_false (by omega), if_neg (by decide)]
        · rw [if_neg c3, Option.bind_some, if_neg (by decide)]
      · rw [decide_eq_false c2, if_neg (by decide)]
    · rw [if_neg c1, Option.bind_some, if_neg (by decide)]
theorem refnum_is (W H : Nat) (hW : 1 ≤ W ∧ W ≤ 64) (hH : 1 ≤ H ∧ H ≤ 64) (f : Nat → Nat → Int) (x y : Int) : chequerref03_At.f (W : Int) (H : Int) (tab W H f) x y = some (numV W H f x y) := by
  unfold numV
  by_cases c : (0 ≤ x ∧ x < W) ∧ (0 ≤ y ∧ y < H)
  · rw [if_pos c]
    obtain ⟨x, rfl⟩ : ∃ n : Nat, x = (n : Int) := ⟨x.toNat, by omega⟩
    obtain ⟨y, rfl⟩ : ∃ n : Nat, y = (n : Int) := ⟨y.toNat, by omega⟩
    exact refat_is W H (by omega) (by omega) f x y (by omega) (by omega)
  · rw [if_neg c]
    unfold chequerref03_At.f
    by_cases c1 : x < 0
    · rw [if_pos c1]
    · rw [if_neg c1]
      by_cases c2 : y < 0
      · rw [if_pos c2]
      · rw [if_neg c2]
        by_cases c3 : x ≥ W
        · rw [if_pos c3]
        · rw [if_neg c3, if_pos (by omega)]
theorem hasm_any (W H k : Nat) (hW : 1 ≤ W ∧ W ≤ 64) (hH : 1 ≤ H ∧ H ≤ 64) (f : Nat → Nat → Int) (x y : Int) (p q : Nat) (o : Nat → Nat → Int) (hk : 4302 ≤ k) : rect_Matrix_Has.f k (W : Int) (H : Int) (tab W H f) (p : Int) (q : Int) (tab p q o) x y = some (decide (fitP W H x y p q) && hasB f p q o x.toNat y.toNat) := by
  by_cases c : fitP W H x y p q
  · have c' := c
    unfold fitP at c'
    obtain ⟨x, rfl⟩ : ∃ n : Nat, x = (n : Int) := ⟨x.toNat, by omega⟩
    obtain ⟨y, rfl⟩ : ∃ n : Nat, y = (n : Int) := ⟨y.toNat, by omega⟩
    exact has_is W H k hW hH f x y p q o (by omega)
  · rw [decide_eq_false c, Bool.false_and]
    unfold rect_Matrix_Has.f
    rw [inside_is _ _ _ _ _ _ _ (by omega) (by omega), Option.bind_some, decide_eq_false c, if_neg (by decide)]
theorem refhas_any (W H k : Nat) (hW : 1 ≤ W ∧ W ≤ 64) (hH : 1 ≤ H ∧ H ≤ 64) (f : Nat → Nat → Int) (x y : Int) (p q : Nat) (o : Nat → Nat → Int) (hk : 4302 ≤ k) : chequerref03_Has.f k (W : Int) (H : Int) (tab W H f) (p : Int) (q : Int) (tab p q o) x y = some (decide (fitP W H x y p q) && hasB f p q o x.toNat y.toNat) := by
  by_cases c : fitP W H x y p q
  · have c' := c
    unfold fitP at c'
    obtain ⟨x, rfl⟩ : ∃ n : Nat, x = (n : Int) := ⟨x.toNat, by omega⟩
    obtain ⟨y, rfl⟩ : ∃ n : Nat, y = (n : Int) := ⟨y.toNat, by omega⟩
    exact refhas_is W H k hW hH f x y p q o hk
  · rw [decide_eq_false c, Bool.false_and]
    unfold chequerref03_Has.f
    rw [refsub_no W H k hW hH _ x y p q c hk, Option.bind_some]
    dsimp only
    rw [if_neg (by decide)]
theorem part_len (W H : Nat) (hW : 1 ≤ W ∧ W ≤ 64) (hH : 1 ≤ H ∧ H ≤ 64) (f : Nat → Nat → Int) (x y p q : Int) : (partV W H f x y p q).2.2.1.length ≤ 5000 := by
  unfold partV
  by_cases c : fitP W H x y p q
  · rw [if_pos c]
    unfold fitP at c
    have hm : q.toNat * p.toNat ≤ 64 * 64 := Nat.mul_le_mul (by omega) (by omega)
    dsimp only
    rw [tab_len]
    omega
  · rw [if_neg c]
    exact Nat.zero_le _
/-- One place. -/
theorem one_part (W H p q : Nat) (hW : 1 ≤ W ∧ W ≤ 64) (hH : 1 ≤ H ∧ H ≤ 64) (f o : Nat → Nat → Int) (A : List S25) (i : Nat) (hi : i < 2) (hA : A.length = 2) (k : Nat) (hk : 20000 ≤ k) (hn : chequerlaw03_RectParts.l0 k A ((i + 1 : Nat) : Int) (W : Int) (H : Int) (tab W H f) (p : Int) (q : Int) (tab p q o) = some true) :
    chequerlaw03_RectParts.l0 (k + 2) A (i : Int) (W : Int) (H : Int) (tab W H f) (p : Int) (q : Int) (tab p q o) = some true := by
  have w1 : wrap64 ((i : Int) + 1) = ((i + 1 : Nat) : Int) := by rw [tw _ (by omega) (by omega)]; omega
  obtain ⟨x, hx⟩ : ∃ x, x = (rd_T25 A (i : Int)).f0 := ⟨_, rfl⟩
  obtain ⟨y, hy⟩ : ∃ x, x = (rd_T25 A (i : Int)).f1 := ⟨_, rfl⟩
  obtain ⟨u, hu⟩ : ∃ x, x = (rd_T25 A (i : Int)).f2 := ⟨_, rfl⟩
  obtain ⟨v, hv⟩ : ∃ x, x = (rd_T25 A (i : Int)).f3 := ⟨_, rfl⟩
  rw [chequerlaw03_RectParts.l0, if_pos (by clear w1; omega), if_pos (by clear w1; omega), if_pos (by clear w1; omega), ← hx, ← hy, ← hu, ← hv]
  have hl := part_len W H hW hH f x y u v
  unfold chequerlaw03_of.f
  rw [Option.bind_some]
  dsimp only
  rw [num_is W H hW hH, Option.bind_some, refnum_is W H hW hH, Option.bind_some, Option.bind_some]
  dsimp only
  rw [partm_is W H _ hW hH f x y u v (by clear w1; omega), Option.bind_some, refpart_is W H _ hW hH f x y u v (by clear w1; omega), Option.bind_some, if_pos rfl, if_neg (by simp), if_neg (by simp)]
  unfold chequerlaw03_as.f
  rw [Option.bind_some]
  dsimp only
  rw [same_self _ _ _ _ (by clear w1; omega) (by clear w1; omega), Option.bind_some, if_pos rfl, Option.bind_some, Option.bind_some]
  dsimp only
  rw [hasm_any W H _ hW hH f x y p q o (by clear w1; omega), Option.bind_some, refhas_any W H _ hW hH f x y p q o (by clear w1; omega), Option.bind_some, chequerlaw03_RectParts.j1, if_neg (by simp), w1]
  clear w1
  unfold partV
  by_cases c : fitP W H x y u v
  · rw [if_pos c]
    have c' := c
    unfold fitP at c'
    obtain ⟨x, rfl⟩ : ∃ n : Nat, x = (n : Int) := ⟨x.toNat, by omega⟩
    obtain ⟨y, rfl⟩ : ∃ n : Nat, y = (n : Int) := ⟨y.toNat, by omega⟩
    obtain ⟨u, rfl⟩ : ∃ n : Nat, u = (n : Int) := ⟨u.toNat, by omega⟩
    obtain ⟨v, rfl⟩ : ∃ n : Nat, v = (n : Int) := ⟨v.toNat, by omega⟩
    dsimp only
    simp only [Int.toNat_natCast]
    unfold chequerlaw03_of.f
    rw [if_pos trivial, Option.bind_some, Option.bind_some]
    dsimp only
    rw [hasm_any W H _ hW hH f x y u v (subF f x y) (by omega), Option.bind_some, decide_eq_true c, Bool.true_and]
    unfold hasB
    rw [Int.toNat_natCast, Int.toNat_natCast, decide_eq_true rfl, if_pos rfl]
    exact hn
  · rw [if_neg c]
    exact hn
theorem RectParts : chequerlaw03_RectParts.Pure := by
  intro m0 m1 l o0 o1 l1 p0 p1 p2 p3 h0 h1 _ _ k0 k1 _ _ g0 g1 g2 g3
  obtain ⟨w, h, f, hw, hh, hG⟩ := good_is m0 m1 l 7 (by omega) (wf_i64 h0) (wf_i64 h1)
  obtain ⟨u, v, o, hu, hv, hG2⟩ := good_is o0 o1 l1 3 (by omega) (wf_i64 k0) (wf_i64 k1)
  refine ⟨60000, ?_⟩
  have e1 := hG 60000 (by omega)
  rw [show ((7 : Nat) : Int) = 7 from rfl] at e1
  have e2 := hG2 60000 (by omega)
  rw [show ((3 : Nat) : Int) = 3 from rfl] at e2
  have a0 := around_is p0 9 (wf_i64 g0).1 (wf_i64 g0).2 (by decide)
  have a1 := around_is p1 9 (wf_i64 g1).1 (wf_i64 g1).2 (by decide)
  have a2 := around_is p2 9 (wf_i64 g2).1 (wf_i64 g2).2 (by decide)
  have a3 := around_is p3 9 (wf_i64 g3).1 (wf_i64 g3).2 (by decide)
  unfold chequerlaw03_RectParts.f
  rw [e1, Option.bind_some, e2, Option.bind_some, a0, Option.bind_some, a1, Option.bind_some, a2, Option.bind_some, a3, Option.bind_some]
  dsimp only
  refine one_part w h u v (by omega) (by omega) f o _ 0 (by decide) rfl 59998 (by decide) ?_
  refine one_part w h u v (by omega) (by omega) f o _ 1 (by decide) rfl 59996 (by decide) ?_
  rw [show (59996 : Nat) = 59995 + 1 from rfl, chequerlaw03_RectParts.l0, if_neg (by decide), lives03 _ (by decide)]
  rfl
end Go.Proofs.Ytidpaaemfiopkaa.Pure
