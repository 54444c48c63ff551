/- What is put beside, and above, is the document's, or refused; both are found in it where they were put: for any two matrices, and one as high, one as wide. No condition. -/
import Derived.Test.YtidpaaemfiopkaaIapi_Pixel_55
import Derived.Test.YtidpaaemfiopkaaIrect_Matrix_row
import Derived.Test.YtidpaaemfiopkaaLAround
import Derived.Test.YtidpaaemfiopkaaLLives03
import Derived.Test.YtidpaaemfiopkaaLSub
import Derived.Test.YtidpaaemfiopkaaLTab
import Derived.Test.YtidpaaemfiopkaaQ11
import Derived.Test.YtidpaaemfiopkaaQ13
import Derived.Test.YtidpaaemfiopkaaQ15
import Derived.Test.YtidpaaemfiopkaaQ25
import Derived.Test.YtidpaaemfiopkaaQ26
import Derived.Test.YtidpaaemfiopkaaQ28
import Derived.Test.YtidpaaemfiopkaaQ29
import Derived.Test.YtidpaaemfiopkaaQ3
import Derived.Test.YtidpaaemfiopkaaQ5
import Derived.Test.YtidpaaemfiopkaaQ6
import Derived.Test.YtidpaaemfiopkaaQ9
namespace Go.Proofs.Ytidpaaemfiopkaa.Pure
open Go.RowKit Go.Proofs.Ytidpaaemfiopkaa.Q Go.Proofs.YtidpaaemfiopkaaW.PrintWords Go.Proofs.YtidpaaemfiopkaaW.PrintLast
set_option linter.unusedVariables false
def besideF (w : Nat) (f o : Nat → Nat → Int) (x y : Nat) : Int := if x < w then f x y else o (x - w) y
def aboveF (h : Nat) (f o : Nat → Nat → Int) (x y : Nat) : Int := if y < h then f x y else o x (y - h)
theorem trow_beside (w u y : Nat) (f o : Nat → Nat → Int) : trow w (fun i => f i y) ++ trow u (fun i => o i y) = trow (w + u) (fun i => besideF w f o i y) := by
  unfold trow
  rw [List.range_add, List.map_append, List.map_map]
  congr 1
  · refine List.map_congr_left (fun i hi => ?_)
    unfold besideF
    rw [if_pos (List.mem_range.1 hi)]
  · refine List.map_congr_left (fun i hi => ?_)
    show o i y = besideF w f o (w + i) y
    unfold besideF
    rw [if_neg (by omega), Nat.add_sub_cancel_left]
theorem tab_above (w h : Nat) (f o : Nat → Nat → Int) : ∀ v, tab w h f ++ tab w v o = tab w (h + v) (aboveF h f o)
  | 0 => by
    show tab w h f ++ [] = tab w h (aboveF h f o)
    rw [List.append_nil]
    exact tab_congr _ _ _ _ (fun x y _ hy => by unfold aboveF; rw [if_pos hy])
  | v + 1 => by
    show tab w h f ++ (tab w v o ++ trow w (fun x => o x v)) = tab w (h + v) (aboveF h f o) ++ trow w (fun x => aboveF h f o x (h + v))
    rw [← List.append_assoc, tab_above w h f o v]
    congr 1
    unfold trow
    refine List.map_congr_left (fun i _ => ?_)
    unfold aboveF
    rw [if_neg (by omega), Nat.add_sub_cancel_left]
theorem jmay (w h : Nat) (hw : 1 ≤ w ∧ w ≤ 64) (hh : 1 ≤ h ∧ h ≤ 64) (f : Nat → Nat → Int) : rect_May.f (w : Int) (h : Int) (tab w h f) = some true := by
  have hm : h * w ≤ 64 * 64 := Nat.mul_le_mul hh.2 hw.2
  have e : wrap64 ((w : Int) * (h : Int)) = ((h * w : Nat) : Int) := by rw [← Int.natCast_mul, Nat.mul_comm, tw _ (by omega) (by omega)]
  unfold rect_May.f rect_sized.f
  rw [if_pos (by omega), if_pos (by omega), if_pos (by omega), if_pos (by omega), e, decide_eq_true (by omega), Option.bind_some, if_pos rfl, tab_len]
  simp
theorem jsized (w h : Nat) (hw : 1 ≤ w ∧ w ≤ 64) (hh : 1 ≤ h ∧ h ≤ 64) : rect_sized.f (w : Int) (h : Int) = some true := by
  have hm : h * w ≤ 64 * 64 := Nat.mul_le_mul hh.2 hw.2
  have e : wrap64 ((w : Int) * (h : Int)) = ((h * w : Nat) : Int) := by rw [← Int.natCast_mul, Nat.mul_comm, tw _ (by omega) (by omega)]
  unfold rect_sized.f
  rw [if_pos (by omega), if_pos (by omega), if_pos (by omega), if_pos (by omega), e, decide_eq_true (by omega)]
theorem jrefsized (w h : Nat) (hw : 1 ≤ w ∧ w ≤ 64) (hh : 1 ≤ h ∧ h ≤ 64) : chequerref03_Sized.f (w : Int) (h : Int) = some true := by
  have hm : h * w ≤ 64 * 64 := Nat.mul_le_mul hh.2 hw.2
  have e : wrap64 ((w : Int) * (h : Int)) = ((h * w : Nat) : Int) := by rw [← Int.natCast_mul, Nat.mul_comm, tw _ (by omega) (by omega)]
  unfold chequerref03_Sized.f
  rw [if_neg (by omega), if_neg (by omega), if_neg (by omega), if_neg (by omega), e, decide_eq_true (by omega)]
theorem jrefmay (w h : Nat) (hw : 1 ≤ w ∧ w ≤ 64) (hh : 1 ≤ h ∧ h ≤ 64) (f : Nat → Nat → Int) : chequerref03_May.f (w : Int) (h : Int) (tab w h f) = some true := by
  have hm : h * w ≤ 64 * 64 := Nat.mul_le_mul hh.2 hw.2
  have e : wrap64 ((w : Int) * (h : Int)) = ((h * w : Nat) : Int) := by rw [← Int.natCast_mul, Nat.mul_comm, tw _ (by omega) (by omega)]
  unfold chequerref03_May.f
  rw [jrefsized w h hw hh, Option.bind_some, if_pos rfl, e, tab_len]
  simp
theorem jwadd (w u : Nat) (hw : w ≤ 64) (hu : u ≤ 64) : wrap64 ((w : Int) + (u : Int)) = ((w + u : Nat) : Int) := by rw [tw _ (by omega) (by omega)]; omega
theorem jrow (W H : Nat) (hW : 1 ≤ W ∧ W ≤ 64) (hH : 1 ≤ H ∧ H ≤ 64) (f : Nat → Nat → Int) (y : Nat) (hy : y < H) : rect_Matrix_row.f (W : Int) (H : Int) (tab W H f) 0 (y : Int) (W : Int) = some (trow W (fun i => f i y)) := by
  have := row_is W H hW hH f 0 y W (by omega) hy hW.1
  rw [show ((0 : Nat) : Int) = 0 from rfl] at this
  rw [this]
  congr 1
  unfold trow
  exact List.map_congr_left (fun i _ => by rw [Nat.zero_add])
theorem jrefrow (W H : Nat) (hW : 1 ≤ W ∧ W ≤ 64) (hH : 1 ≤ H ∧ H ≤ 64) (f : Nat → Nat → Int) (y : Nat) (hy : y < H) : ∀ (d x k : Nat), x + d = W → d < k → chequerref03_Row.l0 k (y : Int) (trow x (fun i => f i y)) (x : Int) (W : Int) (H : Int) (tab W H f) = some (trow W (fun i => f i y)) := by
  intro d
  induction d with
  | zero =>
    intro x k hd hk
    obtain ⟨k, rfl⟩ : ∃ m, k = m + 1 := ⟨k - 1, by omega⟩
    have : x = W := by omega
    subst this
    rw [chequerref03_Row.l0, if_neg (by omega)]
  | succ d ih =>
    intro x k hd hk
    obtain ⟨k, rfl⟩ : ∃ m, k = m + 1 := ⟨k - 1, by omega⟩
    rw [chequerref03_Row.l0, if_pos (by omega), refat_is W H (by omega) (by omega) f x y (by omega) hy, Option.bind_some, if_pos rfl, if_pos (by rw [trow_len]; omega), tw ((x : Int) + 1) (by omega) (by omega)]
    have hn := ih (x + 1) k (by omega) (by omega)
    unfold trow at hn ⊢
    rw [List.range_succ, List.map_append] at hn
    exact hn
theorem beside_rows (w h u : Nat) (hw : 1 ≤ w ∧ w ≤ 32) (hh : 1 ≤ h ∧ h ≤ 32) (hu : 1 ≤ u ∧ u ≤ 32) (f o : Nat → Nat → Int) (b0 b1 : Int) : ∀ (d y k : Nat), y + d = h → d < k → rect_Beside.l0 k (h : Int) (y : Int) (w : Int) (h : Int) (tab w h f) (u : Int) (h : Int) (tab u h o) b0 b1 (tab (w + u) y (besideF w f o)) = some (b0, b1, tab (w + u) h (besideF w f o), 0) := by
  intro d
  induction d with
  | zero =>
    intro y k hd hk
    obtain ⟨k, rfl⟩ : ∃ m, k = m + 1 := ⟨k - 1, by omega⟩
    have : y = h := by omega
    subst this
    rw [rect_Beside.l0, if_neg (by omega)]
  | succ d ih =>
    intro y k hd hk
    obtain ⟨k, rfl⟩ : ∃ m, k = m + 1 := ⟨k - 1, by omega⟩
    have hm : y * (w + u) ≤ 64 * 64 := Nat.mul_le_mul (by omega) (by omega)
    rw [rect_Beside.l0, if_pos (by omega), jrow w h (by omega) (by omega) f y (by omega), Option.bind_some, if_pos (by rw [tab_len, trow_len]; omega), Option.bind_some, jrow u h (by omega) (by omega) o y (by omega), Option.bind_some, if_pos (by rw [List.length_append, tab_len, trow_len, trow_len]; omega), tw ((y : Int) + 1) (by omega) (by omega), List.append_assoc, trow_beside]
    exact ih (y + 1) k (by omega) (by omega)
theorem refbeside_rows (w h u : Nat) (hw : 1 ≤ w ∧ w ≤ 32) (hh : 1 ≤ h ∧ h ≤ 32) (hu : 1 ≤ u ∧ u ≤ 32) (f o : Nat → Nat → Int) (b0 b1 : Int) : ∀ (d y k : Nat), y + d = h → 100 + d < k → chequerref03_Beside.l0 k (y : Int) (w : Int) (h : Int) (tab w h f) (u : Int) (h : Int) (tab u h o) b0 b1 (tab (w + u) y (besideF w f o)) = some (b0, b1, tab (w + u) h (besideF w f o), 0) := by
  intro d
  induction d with
  | zero =>
    intro y k hd hk
    obtain ⟨k, rfl⟩ : ∃ m, k = m + 1 := ⟨k - 1, by omega⟩
    have : y = h := by omega
    subst this
    rw [chequerref03_Beside.l0, if_neg (by omega)]
  | succ d ih =>
    intro y k hd hk
    obtain ⟨k, rfl⟩ : ∃ m, k = m + 1 := ⟨k - 1, by omega⟩
    have hm : y * (w + u) ≤ 64 * 64 := Nat.mul_le_mul (by omega) (by omega)
    have r1 := jrefrow w h (by omega) (by omega) f y (by omega) w 0 k (by omega) (by omega)
    have r2 := jrefrow u h (by omega) (by omega) o y (by omega) u 0 k (by omega) (by omega)
    rw [chequerref03_Beside.l0, if_pos (by omega)]
    unfold chequerref03_Row.f
    rw [show (([] : List Int)) = trow 0 (fun i => f i y) from rfl, show (0 : Int) = ((0 : Nat) : Int) from rfl, r1, Option.bind_some, if_pos (by rw [tab_len, trow_len]; omega), Option.bind_some, show trow 0 (fun i => f i y) = trow 0 (fun i => o i y) from rfl, r2, Option.bind_some, if_pos (by rw [List.length_append, tab_len, trow_len, trow_len]; omega), tw ((y : Int) + 1) (by omega) (by omega), List.append_assoc, trow_beside]
    exact ih (y + 1) k (by omega) (by omega)
def besV (w h : Nat) (f : Nat → Nat → Int) (u v : Nat) (o : Nat → Nat → Int) : Int × Int × List Int × Int := if h = v then (((w + u : Nat) : Int), (h : Int), tab (w + u) h (besideF w f o), 0) else (0, 0, [], 1)
def aboV (w h : Nat) (f : Nat → Nat → Int) (u v : Nat) (o : Nat → Nat → Int) : Int × Int × List Int × Int := if w = u then ((w : Int), ((h + v : Nat) : Int), tab w (h + v) (aboveF h f o), 0) else (0, 0, [], 1)
theorem bes_is (w h u v k : Nat) (hw : 1 ≤ w ∧ w ≤ 32) (hh : 1 ≤ h ∧ h ≤ 32) (hu : 1 ≤ u ∧ u ≤ 32) (hv : 1 ≤ v ∧ v ≤ 32) (f o : Nat → Nat → Int) (hk : 200 ≤ k) : rect_Beside.f k (w : Int) (h : Int) (tab w h f) (u : Int) (v : Int) (tab u v o) = some (besV w h f u v o) := by
  obtain ⟨k, rfl⟩ : ∃ m, k = m + 1 := ⟨k - 1, by omega⟩
  unfold rect_Beside.f besV
  rw [jmay w h (by omega) (by omega), Option.bind_some, if_pos rfl, jmay u v (by omega) (by omega), Option.bind_some, if_pos rfl]
  by_cases c : h = v
  · subst c
    rw [if_pos rfl, if_pos rfl, jwadd w u (by omega) (by omega), jsized (w + u) h (by omega) (by omega), Option.bind_some, rect_Beside.j0, if_neg (by decide), jwadd w u (by omega) (by omega)]
    exact beside_rows w h u hw hh hu f o _ _ h 0 k (by omega) (by omega)
  · rw [if_neg (by omega), if_neg c, rect_Beside.j0, if_pos rfl]
theorem refbes_is (w h u v k : Nat) (hw : 1 ≤ w ∧ w ≤ 32) (hh : 1 ≤ h ∧ h ≤ 32) (hu : 1 ≤ u ∧ u ≤ 32) (hv : 1 ≤ v ∧ v ≤ 32) (f o : Nat → Nat → Int) (hk : 200 ≤ k) : chequerref03_Beside.f k (w : Int) (h : Int) (tab w h f) (u : Int) (v : Int) (tab u v o) = some (besV w h f u v o) := by
  obtain ⟨k, rfl⟩ : ∃ m, k = m + 1 := ⟨k - 1, by omega⟩
  unfold chequerref03_Beside.f besV
  rw [jrefmay w h (by omega) (by omega), Option.bind_some, jrefmay u v (by omega) (by omega), Option.bind_some, if_pos rfl, if_pos rfl]
  by_cases c : h = v
  · subst c
    rw [if_pos rfl, chequerref03_Beside.j0, if_neg (by simp), jwadd w u (by omega) (by omega), jrefsized (w + u) h (by omega) (by omega), Option.bind_some, if_pos rfl]
    exact refbeside_rows w h u hw hh hu f o _ _ h 0 k (by omega) (by omega)
  · rw [if_neg c, bne_iff_ne.2 (by omega), chequerref03_Beside.j0, if_pos rfl]
theorem abo_is (w h u v : Nat) (hw : 1 ≤ w ∧ w ≤ 32) (hh : 1 ≤ h ∧ h ≤ 32) (hu : 1 ≤ u ∧ u ≤ 32) (hv : 1 ≤ v ∧ v ≤ 32) (f o : Nat → Nat → Int) : rect_Above.f (w : Int) (h : Int) (tab w h f) (u : Int) (v : Int) (tab u v o) = some (aboV w h f u v o) := by
  unfold rect_Above.f aboV
  rw [jmay w h (by omega) (by omega), Option.bind_some, if_pos rfl, jmay u v (by omega) (by omega), Option.bind_some, if_pos rfl]
  by_cases c : w = u
  · subst c
    have hm : h * w ≤ 64 * 64 := Nat.mul_le_mul (by omega) (by omega)
    have hm2 : v * w ≤ 64 * 64 := Nat.mul_le_mul (by omega) (by omega)
    have ef : ([tab w h f, tab w v o] : List (List Int)).flatten = tab w (h + v) (aboveF h f o) := by
      rw [← tab_above]
      simp
    unfold api_Pixel_55.f
    rw [if_pos rfl, if_pos rfl, jwadd h v (by omega) (by omega), jsized w (h + v) (by omega) (by omega), Option.bind_some, if_pos rfl, ef, if_pos ⟨by rw [← tab_above, List.length_append, tab_len, tab_len]; omega, by simp⟩, Option.bind_some]
  · rw [if_neg (by omega), if_neg c]
theorem refabo_is (w h u v k : Nat) (hw : 1 ≤ w ∧ w ≤ 32) (hh : 1 ≤ h ∧ h ≤ 32) (hu : 1 ≤ u ∧ u ≤ 32) (hv : 1 ≤ v ∧ v ≤ 32) (f o : Nat → Nat → Int) (hk : 200 ≤ k) : chequerref03_Above.f k (w : Int) (h : Int) (tab w h f) (u : Int) (v : Int) (tab u v o) = some (aboV w h f u v o) := by
  obtain ⟨k, rfl⟩ : ∃ m, k = m + 1 := ⟨k - 1, by omega⟩
  unfold chequerref03_Above.f aboV
  rw [jrefmay w h (by omega) (by omega), Option.bind_some, jrefmay u v (by omega) (by omega), Option.bind_some, if_pos rfl, if_pos rfl]
  by_cases c : w = u
  · subst c
    have hm : h * w ≤ 64 * 64 := Nat.mul_le_mul (by omega) (by omega)
    have hm2 : v * w ≤ 64 * 64 := Nat.mul_le_mul (by omega) (by omega)
    rw [if_pos rfl, chequerref03_Above.j0, if_neg (by simp), jwadd h v (by omega) (by omega), jrefsized w (h + v) (by omega) (by omega), Option.bind_some, if_pos rfl, List.nil_append, if_pos (by rw [tab_len, List.length_nil]; omega), Option.bind_some, if_pos (by rw [tab_len, tab_len]; omega), tab_above]
  · rw [if_neg c, bne_iff_ne.2 (by omega), chequerref03_Above.j0, if_pos rfl]
theorem bes_len (w h : Nat) (hw : 1 ≤ w ∧ w ≤ 32) (hh : 1 ≤ h ∧ h ≤ 32) (f : Nat → Nat → Int) (u v : Nat) (hu : 1 ≤ u ∧ u ≤ 32) (o : Nat → Nat → Int) : (besV w h f u v o).2.2.1.length ≤ 5000 := by
  have hm : h * (w + u) ≤ 64 * 64 := Nat.mul_le_mul (by omega) (by omega)
  unfold besV
  split
  · show (tab (w + u) h (besideF w f o)).length ≤ 5000
    rw [tab_len]; omega
  · exact Nat.zero_le _
theorem abo_len (w h : Nat) (hw : 1 ≤ w ∧ w ≤ 32) (hh : 1 ≤ h ∧ h ≤ 32) (f : Nat → Nat → Int) (u v : Nat) (hv : 1 ≤ v ∧ v ≤ 32) (o : Nat → Nat → Int) : (aboV w h f u v o).2.2.1.length ≤ 5000 := by
  have hm : (h + v) * w ≤ 64 * 64 := Nat.mul_le_mul (by omega) (by omega)
  unfold aboV
  split
  · show (tab w (h + v) (aboveF h f o)).length ≤ 5000
    rw [tab_len]; omega
  · exact Nat.zero_le _
/-- A part stands where it was put. -/
theorem jhas (W H p q x y k : Nat) (hW : 1 ≤ W ∧ W ≤ 64) (hH : 1 ≤ H ∧ H ≤ 64) (f o : Nat → Nat → Int) (hp : 1 ≤ p ∧ 1 ≤ q) (hx : x + p ≤ W) (hy : y + q ≤ H) (hk : 200 ≤ k) (e : ∀ i j, i < p → j < q → f (x + i) (y + j) = o i j) : rect_Matrix_Has.f k (W : Int) (H : Int) (tab W H f) (p : Int) (q : Int) (tab p q o) (x : Int) (y : Int) = some true := by
  rw [has_is W H k hW hH f x y p q o hk, decide_eq_true (by unfold fitP; omega), Bool.true_and]
  unfold hasB
  rw [decide_eq_true (tab_congr p q (subF f x y) o (fun i j hi hj => e i j hi hj))]
/-- One of the three. -/
theorem one_join (w h u v : Nat) (hw : 1 ≤ w ∧ w ≤ 32) (hh : 1 ≤ h ∧ h ≤ 32) (hu : 1 ≤ u ∧ u ≤ 32) (hv : 1 ≤ v ∧ v ≤ 32) (f o : Nat → Nat → Int) (A : List S24) (i : Nat) (hi : i < 3) (hA : A.length = 3) (e : rd_T24 A (i : Int) = ⟨(u : Int), (v : Int), tab u v o⟩) (g0 g1 : Int) (g2 : List Int) (k : Nat) (hk : 20000 ≤ k) (hn : chequerlaw03_RectJoins.l0 k A ((i + 1 : Nat) : Int) (w : Int) (h : Int) (tab w h f) g0 g1 g2 = some true) :
    chequerlaw03_RectJoins.l0 (k + 3) A (i : Int) (w : Int) (h : Int) (tab w h f) g0 g1 g2 = some true := by
  have w1 : wrap64 ((i : Int) + 1) = ((i + 1 : Nat) : Int) := by rw [tw _ (by omega) (by omega)]; omega
  have l1 := bes_len w h hw hh f u v hu o
  have l2 := abo_len w h hw hh f u v hv o
  rw [chequerlaw03_RectJoins.l0, if_pos (by clear w1; omega)]
  unfold chequerlaw03_of.f
  rw [Option.bind_some, if_pos (by clear w1; omega), if_pos (by clear w1; omega), e, Option.bind_some]
  dsimp only
  rw [bes_is w h u v _ hw hh hu hv f o (by clear w1; omega), Option.bind_some, refbes_is w h u v _ hw hh hu hv f o (by clear w1; omega), Option.bind_some, Option.bind_some, Option.bind_some]
  dsimp only
  rw [abo_is w h u v hw hh hu hv f o, Option.bind_some, refabo_is w h u v _ hw hh hu hv f o (by clear w1; omega), Option.bind_some, if_pos rfl, if_pos rfl]
  unfold chequerlaw03_as.f
  rw [Option.bind_some]
  dsimp only
  rw [same_self _ _ _ _ (by clear w1; omega) (by clear w1; omega), Option.bind_some, if_pos rfl, Option.bind_some]
  dsimp only
  rw [same_self _ _ _ _ (by clear w1; omega) (by clear w1; omega), Option.bind_some, chequerlaw03_RectJoins.j1, if_neg (by decide)]
  have go2 : chequerlaw03_RectJoins.j2 (k + 1) A (i : Int) (aboV w h f u v o).2.2.2 false (w : Int) (h : Int) (tab w h f) g0 g1 g2 (aboV w h f u v o).1 (aboV w h f u v o).2.1 (aboV w h f u v o).2.2.1 = some true := by
    rw [chequerlaw03_RectJoins.j2, if_neg (by decide), w1]
    clear w1
    unfold aboV
    by_cases c : w = u
    · subst c
      rw [if_pos rfl]
      dsimp only
      unfold chequerlaw03_of.f
      have a1 := jhas w (h + v) w h 0 0 k (by omega) (by omega) (aboveF h f o) f (by omega) (by omega) (by omega) (by omega) (fun i j _ hj => by unfold aboveF; rw [Nat.zero_add, Nat.zero_add, if_pos hj])
      have a2 := jhas w (h + v) w v 0 h k (by omega) (by omega) (aboveF h f o) o (by omega) (by omega) (by omega) (by omega) (fun i j _ hj => by unfold aboveF; rw [Nat.zero_add, if_neg (by omega), Nat.add_sub_cancel_left])
      rw [show ((0 : Nat) : Int) = 0 from rfl] at a1 a2
      rw [if_pos rfl, Option.bind_some]
      dsimp only
      rw [a1, Option.bind_some, if_pos rfl, if_pos (by omega), if_pos (by omega), e, Option.bind_some]
      dsimp only
      rw [a2, Option.bind_some, if_pos rfl]
      exact hn
    · rw [if_neg c]
      exact hn
  have go1 : ∀ b, b = false → chequerlaw03_RectJoins.j2 (k + 1) A (i : Int) (aboV w h f u v o).2.2.2 b (w : Int) (h : Int) (tab w h f) g0 g1 g2 (aboV w h f u v o).1 (aboV w h f u v o).2.1 (aboV w h f u v o).2.2.1 = some true := fun b hb => by rw [hb]; exact go2
  clear w1 l1 l2 go2
  unfold besV
  by_cases c : h = v
  · subst c
    rw [if_pos rfl]
    dsimp only
    unfold chequerlaw03_of.f
    have a1 := jhas (w + u) h w h 0 0 (k + 1) (by omega) (by omega) (besideF w f o) f (by omega) (by omega) (by omega) (by omega) (fun i j hi _ => by unfold besideF; rw [Nat.zero_add, Nat.zero_add, if_pos hi])
    have a2 := jhas (w + u) h u h w 0 (k + 1) (by omega) (by omega) (besideF w f o) o (by omega) (by omega) (by omega) (by omega) (fun i j _ hj => by unfold besideF; rw [Nat.zero_add, if_neg (by omega), Nat.add_sub_cancel_left])
    rw [show ((0 : Nat) : Int) = 0 from rfl] at a1 a2
    rw [if_pos rfl, Option.bind_some]
    dsimp only
    rw [a1, Option.bind_some, if_pos rfl, if_pos (by omega), if_pos (by omega), e, Option.bind_some]
    dsimp only
    rw [a2, Option.bind_some]
    exact go1 _ rfl
  · rw [if_neg c]
    dsimp only
    rw [if_neg (by decide)]
    exact go1 _ rfl
theorem jsame (a0 a1 b0 b1 : Int) (l m : List Int) (k : Nat) (hl : l.length ≤ 5000) (hk : 5001 ≤ k) : ∃ b, rect_Same.f k a0 a1 l b0 b1 m = some b ∧ chequerref03_Same.f k a0 a1 l b0 b1 m = some b := by
  unfold rect_Same.f chequerref03_Same.f
  by_cases c0 : a0 = b0
  · rw [if_pos c0, if_pos c0]
    by_cases c1 : a1 = b1
    · rw [if_pos c1, if_pos c1, equal_is k l m (by omega) (by omega), samerow_is k l m (by omega) (by omega)]
      exact ⟨_, rfl, rfl⟩
    · rw [if_neg c1, if_neg c1]
      exact ⟨_, rfl, rfl⟩
  · rw [if_neg c0, if_neg c0]
    exact ⟨_, rfl, rfl⟩
theorem bes_none (k : Nat) (w h : Int) (l : List Int) (hk : 1 ≤ k) : rect_Beside.f k 0 0 [] w h l = some (0, 0, [], 1) := by
  obtain ⟨k, rfl⟩ : ∃ m, k = m + 1 := ⟨k - 1, by omega⟩
  have : rect_May.f 0 0 ([] : List Int) = some false := by unfold rect_May.f rect_sized.f; decide
  unfold rect_Beside.f
  rw [this, Option.bind_some, if_neg (by decide), rect_Beside.j0, if_pos rfl]
theorem RectJoins : chequerlaw03_RectJoins.Pure := by
  intro m0 m1 l o0 o1 l1 h0 h1 _ _ k0 k1 _ _
  obtain ⟨w, h, f, hw, hh, hG⟩ := good_is m0 m1 l 5 (by omega) (wf_i64 h0) (wf_i64 h1)
  obtain ⟨u1, v1, o1', hu1, hv1, hG1⟩ := good_is o0 o1 l1 5 (by omega) (wf_i64 k0) (wf_i64 k1)
  obtain ⟨u2, v2, o2', hu2, hv2, hG2⟩ := good_is o0 m1 l1 5 (by omega) (wf_i64 k0) (wf_i64 h1)
  obtain ⟨u3, v3, o3', hu3, hv3, hG3⟩ := good_is m0 o1 l1 5 (by omega) (wf_i64 h0) (wf_i64 k1)
  refine ⟨60000, ?_⟩
  have e0 := hG 60000 (by omega)
  have e1 := hG1 60000 (by omega)
  have e2 := hG2 60000 (by omega)
  have e3 := hG3 60000 (by omega)
  rw [show ((5 : Nat) : Int) = 5 from rfl] at e0 e1 e2 e3
  have hm : h * w ≤ 64 * 64 := Nat.mul_le_mul (by omega) (by omega)
  have hl : (tab w h f).length ≤ 5000 := by rw [tab_len]; omega
  unfold chequerlaw03_RectJoins.f
  rw [e0, Option.bind_some, e1, Option.bind_some, e2, Option.bind_some, e3, Option.bind_some]
  dsimp only
  refine one_join w h u1 v1 (by omega) (by omega) (by omega) (by omega) f o1' _ 0 (by decide) rfl rfl _ _ _ 59997 (by decide) ?_
  refine one_join w h u2 v2 (by omega) (by omega) (by omega) (by omega) f o2' _ 1 (by decide) rfl rfl _ _ _ 59994 (by decide) ?_
  refine one_join w h u3 v3 (by omega) (by omega) (by omega) (by omega) f o3' _ 2 (by decide) rfl rfl _ _ _ 59991 (by decide) ?_
  obtain ⟨b, s1, s2⟩ := jsame (w : Int) (h : Int) (u1 : Int) (v1 : Int) (tab w h f) (tab u1 v1 o1') 59990 hl (by decide)
  have s0 : rect_Same.f 59990 (w : Int) (h : Int) (tab w h f) (w : Int) (h : Int) (tab w h f) = some true := by
    unfold rect_Same.f
    rw [if_pos rfl, if_pos rfl, equal_is 59990 _ _ (by omega) (by omega), decide_eq_true rfl]
    rfl
  rw [show (59991 : Nat) = 59990 + 1 from rfl, chequerlaw03_RectJoins.l0, if_neg (by decide)]
  unfold chequerlaw03_of.f
  rw [Option.bind_some]
  dsimp only
  rw [bes_none _ _ _ _ (by decide), Option.bind_some, if_pos rfl, Option.bind_some, Option.bind_some]
  dsimp only
  rw [s0, Option.bind_some, if_pos rfl, Option.bind_some, Option.bind_some]
  dsimp only
  rw [s1, Option.bind_some, s2, Option.bind_some, if_pos (beq_self_eq_true b), lives03 _ (by decide)]
  rfl
end Go.Proofs.Ytidpaaemfiopkaa.Pure
