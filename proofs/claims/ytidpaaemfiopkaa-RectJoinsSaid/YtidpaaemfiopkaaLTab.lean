/- Matrices as tables. -/
import Derived.Test.YtidpaaemfiopkaaLAround
import Derived.Test.YtidpaaemfiopkaaQ2
import Derived.Test.YtidpaaemfiopkaaQ6
import Derived.Test.YtidpaaemfiopkaaQ9
namespace Go.Proofs.Ytidpaaemfiopkaa.Q
open Go.RowKit Go.Proofs.YtidpaaemfiopkaaW.PrintWords Go.Proofs.YtidpaaemfiopkaaW.PrintLast
set_option linter.unusedVariables false
theorem tw (n : Int) (h0 : -9223372036854775808 ≤ n) (h1 : n ≤ 9223372036854775807) : wrap64 n = n := by unfold wrap64; omega
def trow (w : Nat) (g : Nat → Int) : List Int := (List.range w).map g
/-- A table of rows. -/
def tab (w : Nat) : Nat → (Nat → Nat → Int) → List Int
  | 0, _ => []
  | h + 1, f => tab w h f ++ trow w (fun x => f x h)
theorem trow_len (w : Nat) (g : Nat → Int) : (trow w g).length = w := by simp [trow]
theorem tab_len (w h : Nat) (f : Nat → Nat → Int) : (tab w h f).length = h * w := by
  induction h with
  | zero => simp [tab]
  | succ h ih => rw [tab, List.length_append, ih, trow_len, Nat.succ_mul]
theorem tab_congr (w h : Nat) (f g : Nat → Nat → Int) (e : ∀ x y, x < w → y < h → f x y = g x y) : tab w h f = tab w h g := by
  induction h with
  | zero => rfl
  | succ h ih =>
    rw [tab, tab, ih (fun x y hx hy => e x y hx (by omega))]
    congr 1
    exact List.map_congr_left (fun x hx => e x h (List.mem_range.1 hx) (by omega))
theorem lt_mul {x y w h : Nat} (hx : x < w) (hy : y < h) : y * w + x < h * w := by
  have : (y + 1) * w ≤ h * w := Nat.mul_le_mul_right w hy
  rw [Nat.succ_mul] at this
  omega
theorem tab_get (w h : Nat) (f : Nat → Nat → Int) (x y : Nat) (hx : x < w) (hy : y < h) : (tab w h f)[y * w + x]? = some (f x y) := by
  induction h with
  | zero => omega
  | succ h ih =>
    rw [tab]
    by_cases c : y < h
    · rw [List.getElem?_append_left (by rw [tab_len]; exact lt_mul hx c)]
      exact ih c
    · have : y = h := by omega
      subst this
      rw [List.getElem?_append_right (by rw [tab_len]; omega), tab_len, Nat.add_sub_cancel_left, trow, List.getElem?_map, List.getElem?_range hx]
      rfl
theorem tab_rd (w h : Nat) (f : Nat → Nat → Int) (x y : Nat) (hx : x < w) (hy : y < h) : rd (tab w h f) ((y * w + x : Nat) : Int) = f x y := by
  unfold rd
  rw [Int.toNat_natCast, List.getD_eq_getElem?_getD, tab_get w h f x y hx hy]
  rfl
theorem tab_range (w h : Nat) (p : Nat → Int) : (List.range (h * w)).map p = tab w h (fun x y => p (y * w + x)) := by
  induction h with
  | zero => simp [tab]
  | succ h ih =>
    rw [Nat.succ_mul, List.range_add, List.map_append, ih, tab, List.map_map]
    rfl
theorem idx_w (w y x : Nat) (hw : w ≤ 65536) (hy : y ≤ 65536) (hx : x ≤ 65536) : wrap64 (wrap64 ((y : Int) * (w : Int)) + (x : Int)) = ((y * w + x : Nat) : Int) := by
  have a : y * w ≤ 65536 * 65536 := Nat.mul_le_mul hy hw
  rw [tw ((y : Int) * (w : Int)) (by rw [← Int.natCast_mul]; omega) (by rw [← Int.natCast_mul]; omega), ← Int.natCast_mul, tw _ (by omega) (by omega)]
  omega
theorem refat_is (w h : Nat) (hw : w ≤ 65536) (hh : h ≤ 65536) (f : Nat → Nat → Int) (x y : Nat) (hx : x < w) (hy : y < h) : chequerref03_At.f (w : Int) (h : Int) (tab w h f) (x : Int) (y : Int) = some (f x y, true) := by
  have hl := lt_mul hx hy
  unfold chequerref03_At.f
  rw [if_neg (by omega), if_neg (by omega), if_neg (by omega), if_neg (by omega), idx_w w y x hw (by omega) (by omega), if_pos (by omega), if_pos (by rw [tab_len]; omega), tab_rd w h f x y hx hy]
theorem samerow_self (l : List Int) (hl : l.length ≤ 1000000) : ∀ (d i k : Nat), l.length - i ≤ d → i ≤ l.length → d < k → chequerref03_SameRow.l0 k l l (i : Int) = some true := by
  intro d
  induction d with
  | zero =>
    intro i k hd hi hk
    obtain ⟨k, rfl⟩ : ∃ m, k = m + 1 := ⟨k - 1, by omega⟩
    rw [chequerref03_SameRow.l0, if_neg (by omega)]
  | succ d ih =>
    intro i k hd hi hk
    obtain ⟨k, rfl⟩ : ∃ m, k = m + 1 := ⟨k - 1, by omega⟩
    by_cases c : i < l.length
    · rw [chequerref03_SameRow.l0, if_pos (by omega), if_pos (by omega), if_pos (by omega), if_pos rfl, tw _ (by omega) (by omega)]
      exact ih (i + 1) k (by omega) (by omega) (by omega)
    · exact ih i (k + 1) (by omega) hi (by omega)
theorem same_self (k : Nat) (w h : Int) (l : List Int) (hl : l.length ≤ 1000000) (hk : l.length < k) : chequerref03_Same.f k w h l w h l = some true := by
  unfold chequerref03_Same.f chequerref03_SameRow.f
  rw [if_pos rfl, if_pos rfl, if_pos rfl]
  have := samerow_self l hl l.length 0 k (by omega) (by omega) hk
  rw [show ((0 : Nat) : Int) = 0 from rfl] at this
  rw [this]
  rfl
theorem small_mul {w h m n : Nat} (hw : w ≤ m) (hh : h ≤ n) : h * w ≤ n * m := Nat.mul_le_mul hh hw
def goodP (l : List Int) (i : Nat) : Int := if l.length = 0 then 0 else Int.tmod (rd l (Int.tmod (i : Int) (l.length : Int))) 3
theorem tsucc (i : Nat) (hi : i ≤ 1000000) : wrap64 ((i : Int) + 1) = ((i + 1 : Nat) : Int) := by unfold wrap64; omega
theorem good_len (l : List Int) (i : Nat) (h : i ≤ 100000) : ((List.range i).map (goodP l)).length < 17592186044416 := by rw [List.length_map, List.length_range]; omega
theorem good_snoc (l : List Int) (i : Nat) : (List.range i).map (goodP l) ++ [goodP l i] = (List.range (i + 1)).map (goodP l) := by rw [List.range_succ, List.map_append]; rfl
theorem good_z (l : List Int) (i : Nat) (z : l.length = 0) : goodP l i = 0 := by unfold goodP; rw [if_pos z]
theorem good_nz (l : List Int) (i : Nat) (z : ¬ l.length = 0) : goodP l i = Int.tmod (rd l (Int.tmod (i : Int) (l.length : Int))) 3 := by unfold goodP; rw [if_neg z]
theorem tmod_in (i n : Nat) (z : ¬ n = 0) : 0 ≤ Int.tmod (i : Int) (n : Int) ∧ Int.tmod (i : Int) (n : Int) < (n : Int) := ⟨Int.tmod_nonneg _ (by omega), Int.tmod_lt_of_pos _ (by omega)⟩
theorem good_loop (m0 m1 : Int) (l : List Int) (w h N : Nat) (hN : N ≤ 100000) (e : wrap64 ((w : Int) * (h : Int)) = ((N : Nat) : Int)) :
    ∀ (d i k : Nat), N - i ≤ d → i ≤ N → d < k → chequerref03_Good.l0 k (i : Int) m0 m1 l (w : Int) (h : Int) ((List.range i).map (goodP l)) = some ((w : Int), (h : Int), (List.range N).map (goodP l)) := by
  intro d
  induction d with
  | zero =>
    intro i k hd hi hk
    obtain ⟨k, rfl⟩ : ∃ m, k = m + 1 := ⟨k - 1, by omega⟩
    have : i = N := by omega
    subst this
    rw [chequerref03_Good.l0, e, if_neg (by omega)]
  | succ d ih =>
    intro i k hd hi hk
    obtain ⟨k, rfl⟩ : ∃ m, k = m + 1 := ⟨k - 1, by omega⟩
    by_cases c : i < N
    · have nx := ih (i + 1) k (by omega) (by omega) (by omega)
      have hi2 : i ≤ 100000 := by omega
      rw [chequerref03_Good.l0, e, if_pos (Int.ofNat_lt.2 c), tsucc i (by omega)]
      clear e ih
      by_cases z : l.length = 0
      · rw [if_neg (by rw [z]; decide), if_pos (good_len l i hi2), show [(0 : Int)] = [goodP l i] from by rw [good_z l i z], good_snoc]
        exact nx
      · obtain ⟨q0, q1⟩ := tmod_in i l.length z
        rw [if_pos (Int.natCast_pos.2 (Nat.pos_of_ne_zero z)), if_neg (show ¬ ((l.length : Int) = 0) from fun y => z (Int.natCast_eq_zero.1 y)), if_pos q0, if_pos q1, if_pos (good_len l i hi2), ← good_nz l i z, good_snoc]
        exact nx
    · exact ih i (k + 1) (by omega) hi (by omega)
/-- A matrix made of any. -/
theorem good_is (m0 m1 : Int) (l : List Int) (most : Nat) (hm : 1 ≤ most ∧ most ≤ 63) (h0 : -9223372036854775808 ≤ m0 ∧ m0 ≤ 9223372036854775807) (h1 : -9223372036854775808 ≤ m1 ∧ m1 ≤ 9223372036854775807) :
    ∃ (w h : Nat) (f : Nat → Nat → Int), (1 ≤ w ∧ w ≤ most) ∧ (1 ≤ h ∧ h ≤ most) ∧ ∀ k, 4200 ≤ k → chequerref03_Good.f k m0 m1 l (most : Int) = some ((w : Int), (h : Int), tab w h f) := by
  obtain ⟨a0, a1⟩ := aroundZ_range m0 most (by omega)
  obtain ⟨b0, b1⟩ := aroundZ_range m1 most (by omega)
  refine ⟨(1 + aroundZ m0 most).toNat, (1 + aroundZ m1 most).toNat, fun x y => goodP l (y * (1 + aroundZ m0 most).toNat + x), by omega, by omega, ?_⟩
  intro k hk
  unfold chequerref03_Good.f
  rw [around_is m0 most h0.1 h0.2 (by omega), Option.bind_some, around_is m1 most h1.1 h1.2 (by omega), Option.bind_some, tw (1 + aroundZ m0 most) (by omega) (by omega), tw (1 + aroundZ m1 most) (by omega) (by omega)]
  have a := small_mul (show (1 + aroundZ m0 most).toNat ≤ 64 by omega) (show (1 + aroundZ m1 most).toNat ≤ 64 by omega)
  have e2 := good_loop m0 m1 l (1 + aroundZ m0 most).toNat (1 + aroundZ m1 most).toNat ((1 + aroundZ m1 most).toNat * (1 + aroundZ m0 most).toNat) (by omega) (by rw [← Int.natCast_mul, Nat.mul_comm, tw _ (by omega) (by omega)]) _ 0 k (Nat.le_refl _) (by omega) (by omega)
  rw [tab_range] at e2
  rw [Int.toNat_of_nonneg (show 0 ≤ 1 + aroundZ m0 most by omega), Int.toNat_of_nonneg (show 0 ≤ 1 + aroundZ m1 most by omega)] at e2 ⊢
  exact e2
end Go.Proofs.Ytidpaaemfiopkaa.Q
