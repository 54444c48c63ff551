/- Both ways to lay a matrix, as tables. -/
import Derived.Test.YtehjnekljodmgaaIturn_From
import Derived.Test.YtehjnekljodmgaaLTab
import Derived.Test.YtehjnekljodmgaaQ1
import Derived.Test.YtehjnekljodmgaaQ3
namespace Go.Proofs.Ytehjnekljodmgaa.Q
open Go.RowKit Go.Proofs.YtehjnekljodmgaaW.PrintWords Go.Proofs.YtehjnekljodmgaaW.PrintLast
set_option linter.unusedVariables false
/-- Where something stood: across, and down. -/
def layX (g w h x y : Nat) : Nat := match g with | 0 => x | 1 => y | 2 => w - 1 - x | 3 => w - 1 - y | 4 => w - 1 - x | 5 => w - 1 - y | 6 => x | _ => y
def layY (g w h x y : Nat) : Nat := match g with | 0 => y | 1 => h - 1 - x | 2 => h - 1 - y | 3 => x | 4 => y | 5 => h - 1 - x | 6 => h - 1 - y | _ => x
def layW (g w h : Nat) : Nat := if g % 2 = 0 then w else h
def layH (g w h : Nat) : Nat := if g % 2 = 0 then h else w
def layF (g w h : Nat) (f : Nat → Nat → Int) (x y : Nat) : Int := f (layX g w h x y) (layY g w h x y)
theorem turn8 {g : Nat} (hg : g < 8) : g = 0 ∨ g = 1 ∨ g = 2 ∨ g = 3 ∨ g = 4 ∨ g = 5 ∨ g = 6 ∨ g = 7 := by omega
theorem lay_in {g w h x y : Nat} (hg : g < 8) (hx : x < layW g w h) (hy : y < layH g w h) : layX g w h x y < w ∧ layY g w h x y < h := by
  rcases turn8 hg with rfl | rfl | rfl | rfl | rfl | rfl | rfl | rfl <;> simp [layW, layH, layX, layY] at * <;> omega
theorem lay_small {g w h n : Nat} (hw : 1 ≤ w ∧ w ≤ n) (hh : 1 ≤ h ∧ h ≤ n) : (1 ≤ layW g w h ∧ layW g w h ≤ n) ∧ (1 ≤ layH g w h ∧ layH g w h ≤ n) := by
  unfold layW layH
  split <;> exact ⟨by assumption, by assumption⟩
theorem mul_step (y w h : Nat) (hw : w ≤ 64) (hy : y ≤ 64) : y * w ≤ 4096 := Nat.mul_le_mul hy hw
theorem tmay (g : Nat) (hg : g < 8) : turn_May.f (g : Int) = some true := by
  unfold turn_May.f
  rw [if_pos (by omega), decide_eq_true (by omega)]
theorem tsize (g w h : Nat) (hg : g < 8) : turn_Size.f (w : Int) (h : Int) (g : Int) = some ((layW g w h : Int), (layH g w h : Int)) := by
  unfold turn_Size.f
  rw [tmay g hg, Option.bind_some, if_pos rfl]
  rcases turn8 hg with rfl | rfl | rfl | rfl | rfl | rfl | rfl | rfl <;> rfl
theorem from_is (g w h x y : Nat) (hg : g < 8) (hw : 1 ≤ w ∧ w ≤ 64) (hh : 1 ≤ h ∧ h ≤ 64) (hx : x < layW g w h) (hy : y < layH g w h) : turn_From.f (w : Int) (h : Int) (g : Int) (x : Int) (y : Int) = some ((layX g w h x y : Int), (layY g w h x y : Int)) := by
  unfold turn_From.f
  rw [if_pos (by omega)]
  have w1 : wrap64 ((w : Int) - 1) = (w : Int) - 1 := tw _ (by omega) (by omega)
  have h1 : wrap64 ((h : Int) - 1) = (h : Int) - 1 := tw _ (by omega) (by omega)
  rcases turn8 hg with rfl | rfl | rfl | rfl | rfl | rfl | rfl | rfl
  all_goals (simp [layW, layH] at hx hy)
  all_goals (simp only [fromA, fromB, layX, layY, w1, h1])
  all_goals (simp)
  all_goals (try constructor)
  all_goals (first | omega | (unfold wrap64; omega))
theorem at_is (w h : Nat) (hw : w ≤ 65536) (hh : h ≤ 65536) (f : Nat → Nat → Int) (x y : Nat) (hx : x < w) (hy : y < h) : rect_Matrix_At.f (w : Int) (h : Int) (tab w h f) (x : Int) (y : Int) = some (f x y, true) := by
  have hl := lt_mul hx hy
  unfold rect_Matrix_At.f rect_in.f
  rw [if_pos (by omega), Option.bind_some, decide_eq_true (by omega), if_pos rfl, if_pos (by omega), Option.bind_some, decide_eq_true (by omega), if_pos rfl, idx_w w y x hw (by omega) (by omega), if_pos (by omega), if_pos (by rw [tab_len]; omega), tab_rd w h f x y hx hy]
theorem twn (n : Nat) (h : n ≤ 1000000) : wrap64 (n : Int) = (n : Int) := by unfold wrap64; omega
theorem lay_loop (g w h : Nat) (hg : g < 8) (hw : 1 ≤ w ∧ w ≤ 64) (hh : 1 ≤ h ∧ h ≤ 64) (f : Nat → Nat → Int) :
    ∀ (d i k : Nat) (l : List Int), i + d = layH g w h * layW g w h → l.length = layH g w h * layW g w h → (∀ j, j < i → l[j]? = some (layF g w h f (j % layW g w h) (j / layW g w h))) → d < k →
      turn_Lay.l0 k (g : Int) ((layH g w h * layW g w h : Nat) : Int) (i : Int) (w : Int) (h : Int) (tab w h f) (layW g w h : Int) (layH g w h : Int) l = some ((layW g w h : Int), (layH g w h : Int), tab (layW g w h) (layH g w h) (layF g w h f), 0) := by
  obtain ⟨sw, sh⟩ := lay_small (g := g) hw hh
  have hm := mul_step (layH g w h) (layW g w h) 0 sw.2 sh.2
  intro d
  induction d with
  | zero =>
    intro i k l hd hl hj hk
    obtain ⟨k, rfl⟩ : ∃ m, k = m + 1 := ⟨k - 1, by omega⟩
    rw [turn_Lay.l0, if_neg (by omega), tab_ext (layW g w h) (layH g w h) l (layF g w h f) hl (fun j hj2 => hj j (by omega))]
  | succ d ih =>
    intro i k l hd hl hj hk
    obtain ⟨k, rfl⟩ : ∃ m, k = m + 1 := ⟨k - 1, by omega⟩
    obtain ⟨e1, e2, e3⟩ := tab_div (layW g w h) (layH g w h) i (by omega)
    have hle : i / layW g w h ≤ i := Nat.div_le_self _ _
    obtain ⟨e4, e5⟩ := lay_in hg e1 e2
    rw [turn_Lay.l0, if_pos (by omega), if_neg (by omega), Int.tmod_eq_emod_of_nonneg (by omega), Int.tdiv_eq_ediv_of_nonneg (by omega), show ((i : Int) % (layW g w h : Int)) = ((i % layW g w h : Nat) : Int) from rfl, show ((i : Int) / (layW g w h : Int)) = ((i / layW g w h : Nat) : Int) from rfl, twn (i / layW g w h) (Nat.le_trans hle (by omega)), from_is g w h _ _ hg hw hh e1 e2, Option.bind_some]
    dsimp only
    rw [at_is w h (by omega) (by omega) f _ _ e4 e5, Option.bind_some, if_pos (by omega), if_pos (by omega), tw ((i : Int) + 1) (by omega) (by omega), Int.toNat_natCast]
    refine ih (i + 1) k _ (by omega) (by rw [List.length_set]; exact hl) (fun j hj2 => ?_) (by omega)
    rw [List.getElem?_set]
    by_cases c : i = j
    · subst c
      rw [if_pos rfl, if_pos (by omega)]
      rfl
    · rw [if_neg c]
      exact hj j (by omega)
/-- The program's. -/
theorem turnlay_is (g w h k : Nat) (hg : g < 8) (hw : 1 ≤ w ∧ w ≤ 64) (hh : 1 ≤ h ∧ h ≤ 64) (f : Nat → Nat → Int) (hk : 4300 ≤ k) : turn_Lay.f k (w : Int) (h : Int) (tab w h f) (g : Int) = some ((layW g w h : Int), (layH g w h : Int), tab (layW g w h) (layH g w h) (layF g w h f), 0) := by
  obtain ⟨sw, sh⟩ := lay_small (g := g) hw hh
  have hm := mul_step (layH g w h) (layW g w h) 0 sw.2 sh.2
  unfold turn_Lay.f
  rw [tmay g hg, Option.bind_some, if_pos rfl, tsize g w h hg, Option.bind_some]
  dsimp only
  rw [tnew _ _ sw sh, Option.bind_some]
  dsimp only
  rw [if_pos rfl, List.length_replicate]
  exact lay_loop g w h hg hw hh f (layH g w h * layW g w h) 0 k _ (by omega) (by rw [List.length_replicate]) (fun j hj => by omega) (by omega)
theorem tmay_no (g : Int) (hg : ¬ (0 ≤ g ∧ g ≤ 7)) : turn_May.f g = some false := by
  unfold turn_May.f
  by_cases c : g ≥ 0
  · rw [if_pos c, decide_eq_false (by omega)]
  · rw [if_neg c]
theorem turnlay_no (k : Nat) (w h : Int) (l : List Int) (g : Int) (hg : ¬ (0 ≤ g ∧ g ≤ 7)) : turn_Lay.f k w h l g = some (0, 0, [], 1) := by
  unfold turn_Lay.f
  rw [tmay_no g hg, Option.bind_some, if_neg (by decide)]
theorem tsize_no (w h g : Int) (hg : ¬ (0 ≤ g ∧ g ≤ 7)) : turn_Size.f w h g = some (0, 0) := by
  unfold turn_Size.f
  rw [tmay_no g hg, Option.bind_some, if_neg (by decide)]
end Go.Proofs.Ytehjnekljodmgaa.Q
