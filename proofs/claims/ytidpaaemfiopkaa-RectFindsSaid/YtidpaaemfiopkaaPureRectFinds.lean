/- Where another matrix is, is the document's: for any two matrices, any part of the first one. No condition. -/
import Derived.Test.YtidpaaemfiopkaaLAround
import Derived.Test.YtidpaaemfiopkaaLFind3
import Derived.Test.YtidpaaemfiopkaaLLives03
import Derived.Test.YtidpaaemfiopkaaLSub
import Derived.Test.YtidpaaemfiopkaaLTab
import Derived.Test.YtidpaaemfiopkaaQ2
import Derived.Test.YtidpaaemfiopkaaQ3
import Derived.Test.YtidpaaemfiopkaaQ8
namespace Go.Proofs.Ytidpaaemfiopkaa.Pure
open Go.RowKit Go.Proofs.Ytidpaaemfiopkaa.Q Go.Proofs.YtidpaaemfiopkaaW.PrintWords Go.Proofs.YtidpaaemfiopkaaW.PrintLast
theorem around_nat (n : Int) (m : Nat) (hm : 1 ≤ m) (h : -9223372036854775808 ≤ n ∧ n ≤ 9223372036854775807) : ∃ x : Nat, x < m ∧ chequerref01_Around.f n (m : Int) = some (x : Int) := by
  obtain ⟨a, b⟩ := aroundZ_range n m (by omega)
  refine ⟨(aroundZ n m).toNat, by omega, ?_⟩
  rw [around_is n m h.1 h.2 (by omega), Int.toNat_of_nonneg a]
/-- The same places, one by one. -/
theorem same_places (A : List S24) (i : Int) (g0 g1 : Int) (g2 : List Int) (R : List S36) (hR : R.length ≤ 5000) (F : Nat) (hn : ∀ k, F ≤ k → chequerlaw03_RectFinds.l0 k A (wrap64 (i + 1)) g0 g1 g2 = some true) :
    ∀ (d j k : Nat), j + d = R.length → F + d < k → chequerlaw03_RectFinds.l1 k A i R R (j : Int) g0 g1 g2 = some true := by
  intro d
  induction d with
  | zero =>
    intro j k hd hk
    obtain ⟨k, rfl⟩ : ∃ m, k = m + 1 := ⟨k - 1, by omega⟩
    rw [chequerlaw03_RectFinds.l1, if_neg (by omega)]
    exact hn k (by omega)
  | succ d ih =>
    intro j k hd hk
    obtain ⟨k, rfl⟩ : ∃ m, k = m + 1 := ⟨k - 1, by omega⟩
    rw [chequerlaw03_RectFinds.l1, if_pos (by omega), if_pos (by omega), if_pos (by omega), if_neg (by simp), tw ((j : Int) + 1) (by omega) (by omega)]
    exact ih (j + 1) k (by omega) (by omega)
theorem one_find (W H p q : Nat) (hW : 1 ≤ W ∧ W ≤ 64) (hH : 1 ≤ H ∧ H ≤ 64) (f o : Nat → Nat → Int) (A : List S24) (i : Nat) (hi : i < 2) (hA : A.length = 2) (e : rd_T24 A (i : Int) = ⟨(p : Int), (q : Int), tab p q o⟩)
    (hf : i = 1 → 0 < (frows (standP W H f p q o) W H).length) (F k : Nat) (hF : 10000 ≤ F) (hk : F + 5000 ≤ k) (hn : ∀ k, F ≤ k → chequerlaw03_RectFinds.l0 k A ((i + 1 : Nat) : Int) (W : Int) (H : Int) (tab W H f) = some true) :
    chequerlaw03_RectFinds.l0 k A (i : Int) (W : Int) (H : Int) (tab W H f) = some true := by
  obtain ⟨k, rfl⟩ : ∃ m, k = m + 2 := ⟨k - 2, by omega⟩
  have b1 := frows_len (standP W H f p q o) W H
  have b3 : H * W ≤ 64 * 64 := Nat.mul_le_mul (by omega) (by omega)
  have w1 : wrap64 ((i : Int) + 1) = ((i + 1 : Nat) : Int) := by rw [tw _ (by omega) (by omega)]; omega
  have go := same_places A (i : Int) (W : Int) (H : Int) (tab W H f) (frows (standP W H f p q o) W H) (by omega) F (by rw [w1]; exact hn) (frows (standP W H f p q o) W H).length 0 k (by omega) (by omega)
  rw [chequerlaw03_RectFinds.l0, if_pos (by omega)]
  unfold chequerlaw03_of.f
  rw [Option.bind_some, if_pos (by omega), if_pos (by omega), e, Option.bind_some]
  dsimp only
  rw [find_is W H p q hW hH f o (k + 1) (by omega), Option.bind_some, reffind_is W H p q hW hH f o (k + 1) (by omega), Option.bind_some, if_pos rfl]
  by_cases h1 : (i : Int) = 1
  · have hz : (((frows (standP W H f p q o) W H).length : Int) == 0) = false := beq_eq_false_iff_ne.2 (by have := hf (by omega); omega)
    rw [if_pos h1, chequerlaw03_RectFinds.j1, hz, if_neg (by decide)]
    exact go
  · rw [if_neg h1, chequerlaw03_RectFinds.j1, if_neg (by decide)]
    exact go
theorem RectFinds : chequerlaw03_RectFinds.Pure := by
  intro m0 m1 l o0 o1 l1 p0 p1 p2 p3 h0 h1 _ _ k0 k1 _ _ g0 g1 g2 g3
  obtain ⟨w, h, f, hw, hh, hG⟩ := good_is m0 m1 l 8 (by omega) (wf_i64 h0) (wf_i64 h1)
  obtain ⟨u, v, o, hu, hv, hG2⟩ := good_is o0 o1 l1 3 (by omega) (wf_i64 k0) (wf_i64 k1)
  refine ⟨60000, ?_⟩
  have e1 := hG 60000 (by omega)
  rw [show ((8 : Nat) : Int) = 8 from rfl] at e1
  have e2 := hG2 60000 (by omega)
  rw [show ((3 : Nat) : Int) = 3 from rfl] at e2
  obtain ⟨x, hx1, ex⟩ := around_nat p0 w hw.1 (wf_i64 g0)
  obtain ⟨y, hy1, ey⟩ := around_nat p1 h hh.1 (wf_i64 g1)
  obtain ⟨a, ha1, ea⟩ := around_nat p2 (w - x) (by omega) (wf_i64 g2)
  obtain ⟨b, hb1, eb⟩ := around_nat p3 (h - y) (by omega) (wf_i64 g3)
  have w1 : wrap64 ((w : Int) - (x : Int)) = ((w - x : Nat) : Int) := by rw [tw _ (by omega) (by omega)]; omega
  have w2 : wrap64 ((h : Int) - (y : Int)) = ((h - y : Nat) : Int) := by rw [tw _ (by omega) (by omega)]; omega
  have w3 : wrap64 (1 + (a : Int)) = ((1 + a : Nat) : Int) := by rw [tw _ (by omega) (by omega)]; omega
  have w4 : wrap64 (1 + (b : Int)) = ((1 + b : Nat) : Int) := by rw [tw _ (by omega) (by omega)]; omega
  have hfit : fitP w h x y ((1 + a : Nat) : Int) ((1 + b : Nat) : Int) := by clear w1 w2 w3 w4; unfold fitP; omega
  have s1 := refsub_is w h 60000 (by omega) (by omega) f x y (1 + a) (1 + b) hfit (by omega)
  have sp : standP w h f (1 + a) (1 + b) (subF f x y) x y = true := by
    unfold standP hasB
    rw [decide_eq_true hfit, decide_eq_true rfl]
    rfl
  have last : ∀ (A : List S24) (k : Nat), 9000 ≤ k → chequerlaw03_RectFinds.l0 k A ((1 + 1 : Nat) : Int) (w : Int) (h : Int) (tab w h f) = some true := by
    intro A k hk
    obtain ⟨k, rfl⟩ : ∃ m, k = m + 1 := ⟨k - 1, by omega⟩
    rw [chequerlaw03_RectFinds.l0, if_neg (by decide), lives03 k (by omega)]
    rfl
  unfold chequerlaw03_RectFinds.f
  rw [e1, Option.bind_some]
  dsimp only
  rw [e2, Option.bind_some]
  dsimp only
  rw [ex, Option.bind_some, ey, Option.bind_some, w1, ea, Option.bind_some, w2, eb, Option.bind_some, w3, w4, s1, Option.bind_some]
  dsimp only
  clear w1 w2 w3 w4 e1 e2 ex ey ea eb s1 hG hG2
  generalize hA : ([⟨(u : Int), (v : Int), tab u v o⟩, ⟨((1 + a : Nat) : Int), ((1 + b : Nat) : Int), tab (1 + a) (1 + b) (subF f x y)⟩] : List S24) = A
  have hl : A.length = 2 := by rw [← hA]; rfl
  have r0 : rd_T24 A ((0 : Nat) : Int) = ⟨(u : Int), (v : Int), tab u v o⟩ := by rw [← hA]; rfl
  have r1 : rd_T24 A ((1 : Nat) : Int) = ⟨((1 + a : Nat) : Int), ((1 + b : Nat) : Int), tab (1 + a) (1 + b) (subF f x y)⟩ := by rw [← hA]; rfl
  have step1 := fun k hk => one_find w h (1 + a) (1 + b) (by omega) (by omega) f (subF f x y) A 1 (by omega) hl r1 (fun _ => frows_mem _ w x y sp hx1 h hy1) 10000 k (by omega) hk (fun k hk => last A k (by omega))
  exact one_find w h u v (by omega) (by omega) f o A 0 (by omega) hl r0 (fun h => absurd h (by decide)) 20000 60000 (by omega) (by omega) (fun k hk => step1 k (by omega))
end Go.Proofs.Ytidpaaemfiopkaa.Pure
