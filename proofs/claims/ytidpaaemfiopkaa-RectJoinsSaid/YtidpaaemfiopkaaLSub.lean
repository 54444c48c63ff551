/- Parts of tables. -/
import Derived.Test.YtidpaaemfiopkaaIrect_Matrix_row
import Derived.Test.YtidpaaemfiopkaaLTab
import Derived.Test.YtidpaaemfiopkaaQ3
import Derived.Test.YtidpaaemfiopkaaQ5
import Derived.Test.YtidpaaemfiopkaaQ6
namespace Go.Proofs.Ytidpaaemfiopkaa.Q
open Go.RowKit Go.Proofs.YtidpaaemfiopkaaW.PrintWords Go.Proofs.YtidpaaemfiopkaaW.PrintLast
set_option linter.unusedVariables false
def subF (f : Nat → Nat → Int) (x y : Nat) : Nat → Nat → Int := fun i j => f (x + i) (y + j)
/-- Does a part fit? -/
def fitP (W H x y p q : Int) : Prop := ((1 ≤ p ∧ 1 ≤ q) ∧ (0 ≤ x ∧ 0 ≤ y)) ∧ (x + p ≤ W ∧ y + q ≤ H)
instance (W H x y p q : Int) : Decidable (fitP W H x y p q) := by unfold fitP; exact inferInstance
theorem inside_is (W H : Int) (l : List Int) (x y p q : Int) (hW : 1 ≤ W ∧ W ≤ 64) (hH : 1 ≤ H ∧ H ≤ 64) : rect_Matrix_inside.f W H l x y p q = some (decide (fitP W H x y p q)) := by
  unfold rect_Matrix_inside.f
  by_cases a : p ≥ 1
  · rw [if_pos a]
    by_cases b : q ≥ 1
    · rw [if_pos b]
      by_cases c : x ≥ 0
      · rw [if_pos c]
        by_cases d : y ≥ 0
        · rw [if_pos d]
          by_cases e : p ≤ W
          · rw [if_pos e]
            by_cases f : q ≤ H
            · rw [if_pos f, tw (W - p) (by omega) (by omega), tw (H - q) (by omega) (by omega)]
              by_cases g : x ≤ W - p
              · rw [if_pos g]
                congr 1
                apply decide_eq_decide.2
                unfold fitP
                omega
              · rw [if_neg g, decide_eq_false (by unfold fitP; omega)]
            · rw [if_neg f, decide_eq_false (by unfold fitP; omega)]
          · rw [if_neg e, decide_eq_false (by unfold fitP; omega)]
        · rw [if_neg d, decide_eq_false (by unfold fitP; omega)]
      · rw [if_neg c, decide_eq_false (by unfold fitP; omega)]
    · rw [if_neg b, decide_eq_false (by unfold fitP; omega)]
  · rw [if_neg a, decide_eq_false (by unfold fitP; omega)]
theorem samerow_loop (a b : List Int) (hab : a.length = b.length) (hl : a.length ≤ 1000000) : ∀ (d i k : Nat), a.length - i ≤ d → i ≤ a.length → d < k → chequerref03_SameRow.l0 k a b (i : Int) = some (decide (∀ j, j < a.length → i ≤ j → a[j]? = b[j]?)) := by
  intro d
  induction d with
  | zero =>
    intro i k hd hi hk
    obtain ⟨k, rfl⟩ : ∃ m, k = m + 1 := ⟨k - 1, by omega⟩
    rw [chequerref03_SameRow.l0, if_neg (by omega), decide_eq_true (fun j h1 h2 => by omega)]
  | succ d ih =>
    intro i k hd hi hk
    obtain ⟨k, rfl⟩ : ∃ m, k = m + 1 := ⟨k - 1, by omega⟩
    by_cases c : i < a.length
    · have ea : a[i]? = some (rd a (i : Int)) := by unfold rd; rw [Int.toNat_natCast, List.getD_eq_getElem?_getD, List.getElem?_eq_getElem c]; rfl
      have eb : b[i]? = some (rd b (i : Int)) := by unfold rd; rw [Int.toNat_natCast, List.getD_eq_getElem?_getD, List.getElem?_eq_getElem (by omega)]; rfl
      rw [chequerref03_SameRow.l0, if_pos (by omega), if_pos (by omega), if_pos (by omega), tw ((i : Int) + 1) (by omega) (by omega)]
      by_cases e : rd a (i : Int) = rd b (i : Int)
      · rw [if_pos e]
        have := ih (i + 1) k (by omega) (by omega) (by omega)
        rw [show ((i + 1 : Nat) : Int) = (i : Int) + 1 from by omega] at this
        rw [this]
        congr 1
        apply decide_eq_decide.2
        constructor
        · intro g j h1 h2
          by_cases z : j = i
          · subst z
            rw [ea, eb, e]
          · exact g j h1 (by omega)
        · exact fun g j h1 h2 => g j h1 (by omega)
      · rw [if_neg e, decide_eq_false]
        intro g
        have := g i c (Nat.le_refl _)
        rw [ea, eb] at this
        exact e (Option.some.inj this)
    · exact ih i (k + 1) (by omega) hi (by omega)
theorem ext_all (a b : List Int) (hab : a.length = b.length) : (∀ j, j < a.length → 0 ≤ j → a[j]? = b[j]?) ↔ a = b := by
  constructor
  · intro g
    apply List.ext_getElem?
    intro i
    by_cases c : i < a.length
    · exact g i c (by omega)
    · rw [List.getElem?_eq_none (by omega), List.getElem?_eq_none (by omega)]
  · intro e j _ _
    rw [e]
theorem samerow_is (k : Nat) (a b : List Int) (hl : a.length ≤ 1000000) (hk : a.length < k) : chequerref03_SameRow.f k a b = some (decide (a = b)) := by
  unfold chequerref03_SameRow.f
  by_cases c : a.length = b.length
  · rw [if_pos (by omega)]
    have := samerow_loop a b c hl a.length 0 k (by omega) (by omega) hk
    rw [show ((0 : Nat) : Int) = 0 from rfl] at this
    rw [this]
    congr 1
    exact decide_eq_decide.2 (ext_all a b c)
  · rw [if_neg (by omega), decide_eq_false (fun e => c (by rw [e]))]
theorem equal_loop (a b : List Int) (hab : a.length = b.length) (hl : a.length ≤ 1000000) : ∀ (d i k : Nat), a.length - i ≤ d → i ≤ a.length → d < k → api_Pixel_47.l0 k a b (a.length : Int) (i : Int) = some (decide (∀ j, j < a.length → i ≤ j → a[j]? = b[j]?)) := by
  intro d
  induction d with
  | zero =>
    intro i k hd hi hk
    obtain ⟨k, rfl⟩ : ∃ m, k = m + 1 := ⟨k - 1, by omega⟩
    rw [api_Pixel_47.l0, if_neg (by omega), decide_eq_true (fun j h1 h2 => by omega)]
  | succ d ih =>
    intro i k hd hi hk
    obtain ⟨k, rfl⟩ : ∃ m, k = m + 1 := ⟨k - 1, by omega⟩
    by_cases c : i < a.length
    · have ea : a[i]? = some (rd a (i : Int)) := by unfold rd; rw [Int.toNat_natCast, List.getD_eq_getElem?_getD, List.getElem?_eq_getElem c]; rfl
      have eb : b[i]? = some (rd b (i : Int)) := by unfold rd; rw [Int.toNat_natCast, List.getD_eq_getElem?_getD, List.getElem?_eq_getElem (by omega)]; rfl
      rw [api_Pixel_47.l0, if_pos (by omega), if_pos (by omega), if_pos (by omega), if_pos (by omega), tw ((i : Int) + 1) (by omega) (by omega)]
      by_cases e : rd a (i : Int) = rd b (i : Int)
      · rw [if_pos e]
        have := ih (i + 1) k (by omega) (by omega) (by omega)
        rw [show ((i + 1 : Nat) : Int) = (i : Int) + 1 from by omega] at this
        rw [this]
        congr 1
        apply decide_eq_decide.2
        constructor
        · intro g j h1 h2
          by_cases z : j = i
          · subst z
            rw [ea, eb, e]
          · exact g j h1 (by omega)
        · exact fun g j h1 h2 => g j h1 (by omega)
      · rw [if_neg e, decide_eq_false]
        intro g
        have := g i c (Nat.le_refl _)
        rw [ea, eb] at this
        exact e (Option.some.inj this)
    · exact ih i (k + 1) (by omega) hi (by omega)
theorem equal_is (k : Nat) (a b : List Int) (hl : a.length ≤ 1000000) (hk : a.length < k) : api_Pixel_47.f k a b = some (decide (a = b)) := by
  unfold api_Pixel_47.f
  by_cases c : a.length = b.length
  · rw [if_pos (by omega)]
    have := equal_loop a b c hl a.length 0 k (by omega) (by omega) hk
    rw [show ((0 : Nat) : Int) = 0 from rfl] at this
    rw [this]
    congr 1
    exact decide_eq_decide.2 (ext_all a b c)
  · rw [if_neg (by omega), decide_eq_false (fun e => c (by rw [e]))]
/-- Is one table's part another one? -/
def hasB (f : Nat → Nat → Int) (p q : Nat) (o : Nat → Nat → Int) (x y : Nat) : Bool := decide (tab p q (subF f x y) = tab p q o)
theorem drop_take_tab (W H : Nat) (f : Nat → Nat → Int) (x y p : Nat) (hx : x + p ≤ W) (hy : y < H) : ((tab W H f).take (y * W + x + p)).drop (y * W + x) = trow p (fun i => f (x + i) y) := by
  apply List.ext_getElem?
  intro i
  rw [List.getElem?_drop, trow, List.getElem?_map]
  by_cases c : i < p
  · rw [List.getElem?_take_of_lt (by omega), List.getElem?_range c, show y * W + x + i = y * W + (x + i) from by omega, tab_get W H f (x + i) y (by omega) hy]
    rfl
  · rw [List.getElem?_eq_none (by rw [List.length_take]; omega), List.getElem?_eq_none (by rw [List.length_range]; omega)]
    rfl
theorem row_is (W H : Nat) (hW : 1 ≤ W ∧ W ≤ 64) (hH : 1 ≤ H ∧ H ≤ 64) (f : Nat → Nat → Int) (x y p : Nat) (hx : x + p ≤ W) (hy : y < H) (hp : 1 ≤ p) : rect_Matrix_row.f (W : Int) (H : Int) (tab W H f) (x : Int) (y : Int) (p : Int) = some (trow p (fun i => f (x + i) y)) := by
  have e := idx_w W y x (by omega) (by omega) (by omega)
  have hl : (y + 1) * W ≤ H * W := Nat.mul_le_mul_right W hy
  have hm : H * W ≤ 64 * 64 := Nat.mul_le_mul hH.2 hW.2
  rw [Nat.succ_mul] at hl
  have e2 : wrap64 (((y * W + x : Nat) : Int) + (p : Int)) = ((y * W + x + p : Nat) : Int) := by rw [tw _ (by omega) (by omega)]; omega
  unfold rect_Matrix_row.f
  rw [e, e2, if_pos (by omega), if_pos (by omega), if_pos (by rw [tab_len]; omega), Int.toNat_natCast, Int.toNat_natCast, drop_take_tab W H f x y p hx hy]
theorem tab_rows (p : Nat) (F O : Nat → Nat → Int) : ∀ q, tab p q F = tab p q O ↔ ∀ j, j < q → trow p (fun i => F i j) = trow p (fun i => O i j)
  | 0 => ⟨fun _ j hj => by omega, fun _ => rfl⟩
  | q + 1 => by
    rw [tab, tab]
    constructor
    · intro e j hj
      have e2 := List.append_inj e (by rw [tab_len, tab_len])
      by_cases c : j = q
      · subst c
        exact e2.2
      · exact (tab_rows p F O q).1 e2.1 j (by omega)
    · intro g
      rw [(tab_rows p F O q).2 (fun j hj => g j (by omega)), g q (by omega)]
theorem has_rows (W H : Nat) (hW : 1 ≤ W ∧ W ≤ 64) (hH : 1 ≤ H ∧ H ≤ 64) (f : Nat → Nat → Int) (x y p q : Nat) (o : Nat → Nat → Int) (hp : 1 ≤ p) (hx : x + p ≤ W) (hy : y + q ≤ H) :
    ∀ (d j k : Nat), j + d = q → d + 70 ≤ k → rect_Matrix_Has.l0 k (x : Int) (y : Int) (q : Int) (j : Int) (W : Int) (H : Int) (tab W H f) (p : Int) (q : Int) (tab p q o) = some (decide (∀ j', j' < q → j ≤ j' → trow p (fun i => subF f x y i j') = trow p (fun i => o i j'))) := by
  intro d
  induction d with
  | zero =>
    intro j k hd hk
    obtain ⟨k, rfl⟩ : ∃ m, k = m + 1 := ⟨k - 1, by omega⟩
    rw [rect_Matrix_Has.l0, if_neg (by omega), decide_eq_true (fun j' h1 h2 => by omega)]
  | succ d ih =>
    intro j k hd hk
    obtain ⟨k, rfl⟩ : ∃ m, k = m + 1 := ⟨k - 1, by omega⟩
    have r1 := row_is W H hW hH f x (y + j) p hx (by omega) hp
    have r2 := row_is p q ⟨hp, by omega⟩ ⟨by omega, by omega⟩ o 0 j p (by omega) (by omega) hp
    rw [show ((0 : Nat) : Int) = 0 from rfl] at r2
    rw [rect_Matrix_Has.l0, if_pos (by omega), tw ((y : Int) + (j : Int)) (by omega) (by omega), show (y : Int) + (j : Int) = ((y + j : Nat) : Int) from by omega, r1, Option.bind_some, r2, Option.bind_some, equal_is _ _ _ (by rw [trow_len]; omega) (by rw [trow_len]; omega), Option.bind_some, tw ((j : Int) + 1) (by omega) (by omega)]
    have e1 : trow p (fun i => o (0 + i) j) = trow p (fun i => o i j) := by congr 1; funext i; rw [Nat.zero_add]
    rw [e1]
    by_cases c : trow p (fun i => f (x + i) (y + j)) = trow p (fun i => o i j)
    · rw [decide_eq_true c, if_pos rfl]
      have := ih (j + 1) k (by omega) (by omega)
      rw [show ((j + 1 : Nat) : Int) = (j : Int) + 1 from by omega] at this
      rw [this]
      congr 1
      apply decide_eq_decide.2
      constructor
      · intro g j' h1 h2
        by_cases z : j' = j
        · subst z
          exact c
        · exact g j' h1 (by omega)
      · exact fun g j' h1 h2 => g j' h1 (by omega)
    · rw [decide_eq_false c, if_neg (by decide), decide_eq_false]
      exact fun g => c (g j (by omega) (Nat.le_refl _))
theorem has_is (W H k : Nat) (hW : 1 ≤ W ∧ W ≤ 64) (hH : 1 ≤ H ∧ H ≤ 64) (f : Nat → Nat → Int) (x y p q : Nat) (o : Nat → Nat → Int) (hk : 200 ≤ k) : rect_Matrix_Has.f k (W : Int) (H : Int) (tab W H f) (p : Int) (q : Int) (tab p q o) (x : Int) (y : Int) = some (decide (fitP W H x y p q) && hasB f p q o x y) := by
  unfold rect_Matrix_Has.f
  rw [inside_is _ _ _ _ _ _ _ (by omega) (by omega), Option.bind_some]
  by_cases hf : fitP W H x y p q
  · rw [decide_eq_true hf, if_pos rfl, Bool.true_and]
    unfold fitP at hf
    have r := has_rows W H hW hH f x y p q o (by omega) (by omega) (by omega) q 0 k (by omega) (by omega)
    rw [show ((0 : Nat) : Int) = 0 from rfl] at r
    rw [r]
    congr 1
    unfold hasB
    apply decide_eq_decide.2
    rw [tab_rows]
    exact ⟨fun g j hj => g j hj (by omega), fun g j hj _ => g j hj⟩
  · rw [decide_eq_false hf]
    rfl
end Go.Proofs.Ytidpaaemfiopkaa.Q
