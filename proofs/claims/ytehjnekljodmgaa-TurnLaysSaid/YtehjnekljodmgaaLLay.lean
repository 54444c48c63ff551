/- Both ways to lay a matrix, as tables. -/
import Derived.Test.YtehjnekljodmgaaIchequerref04_Lay
import Derived.Test.YtehjnekljodmgaaIturn_From
import Derived.Test.YtehjnekljodmgaaLTab
import Derived.Test.YtehjnekljodmgaaQ1
import Derived.Test.YtehjnekljodmgaaQ3
import Derived.Test.YtehjnekljodmgaaQ4
namespace Go.Proofs.Ytehjnekljodmgaa.Q
open Go.RowKit Go.Proofs.YtehjnekljodmgaaW.PrintWords Go.Proofs.YtehjnekljodmgaaW.PrintLast
set_option linter.unusedVariables false
/-- Where something stood: across, and down. -/
def layX (g w h x y : Nat) : Nat := match g with | 0 => x | 1 => y | 2 => w - 1 - x | 3 => w - 1 - y | 4 => w - 1 - x | 5 => w - 1 - y | 6 => x | _ => y
def layY (g w h x y : Nat) : Nat := match g with | 0 => y | 1 => h - 1 - x | 2 => h - 1 - y | 3 => x | 4 => y | 5 => h - 1 - x | 6 => h - 1 - y | _ => x
def layW (g w h : Nat) : Nat := if g % 2 = 0 then w else h
def layH (g w h : Nat) : Nat := if g % 2 = 0 then h else w
def layF (g w h : Nat) (f : Nat → Nat → Int) (x y : Nat) : Int := f (layX g w h x y) (layY g w h x y)
theorem turn8 {g : Nat} (hg : g < 8) : g = 0 ∨ g = 1 ∨ g = 2 ∨ g = 3 ∨ g = 4 ∨ g = 5 ∨ g = 6 ∨ g = 7 := by omega
theorem lay_in {g w h x y : Nat} (hg : g < 8) (hx : x < layW g w h) (hy : y < layH g w h) : layX g w h x y < w ∧ layY g w h x y < h := by
  rcases turn8 hg with rfl | rfl | rfl | rfl | rfl | rfl | rfl | rfl <;> simp [layW, layH, layX, layY] at * <;> omega
theorem lay_small {g w h n : Nat} (hw : 1 ≤ w ∧ w ≤ n) (hh : 1 ≤ h ∧ h ≤ n) : (1 ≤ layW g w h ∧ layW g w h ≤ n) ∧ (1 ≤ layH g w h ∧ layH g w h ≤ n) := by
  unfold layW layH
  split <;> exact ⟨by assumption, by assumption⟩
theorem rev_succ (n : Nat) (p : Nat → Int) : (List.range (n + 1)).map (fun j => p (n + 1 - 1 - j)) = p n :: (List.range n).map (fun j => p (n - 1 - j)) := by
  rw [List.range_succ_eq_map, List.map_cons, List.map_map]
  congr 1
  apply List.map_congr_left
  intro j hj
  show p (n + 1 - 1 - (j + 1)) = p (n - 1 - j)
  congr 1
  omega
theorem mir_row (w h : Nat) (hw : w ≤ 64) (hh : h ≤ 64) (f : Nat → Nat → Int) (y : Nat) (hy : y < h) (b0 b1 : Int) :
    ∀ (n k : Nat) (acc : List Int), n ≤ w → acc.length + n ≤ 100000 → chequerref04_mirror.l1 (k + n + 1) (y : Int) ((n : Int) - 1) (w : Int) (h : Int) (tab w h f) b0 b1 acc = chequerref04_mirror.l0 k ((y + 1 : Nat) : Int) (w : Int) (h : Int) (tab w h f) b0 b1 (acc ++ (List.range n).map (fun j => f (n - 1 - j) y)) := by
  intro n
  induction n with
  | zero =>
    intro k acc hn ha
    rw [chequerref04_mirror.l1, if_neg (by omega), tw ((y : Int) + 1) (by omega) (by omega)]
    simp
  | succ n ih =>
    intro k acc hn ha
    rw [show ((n + 1 : Nat) : Int) - 1 = (n : Int) from by omega, show k + (n + 1) + 1 = (k + n + 1) + 1 from by omega, chequerref04_mirror.l1, if_pos (by omega), refat_is w h (by omega) (by omega) f n y (by omega) hy, Option.bind_some, if_pos (by omega), tw ((n : Int) - 1) (by omega) (by omega), ih k (acc ++ [f n y]) (by omega) (by rw [List.length_append, List.length_singleton]; omega), rev_succ n (fun j => f j y), List.append_assoc]
    rfl
theorem qua_row (w h : Nat) (hw : w ≤ 64) (hh : h ≤ 64) (f : Nat → Nat → Int) (x : Nat) (hx : x < w) (b0 b1 : Int) :
    ∀ (n k : Nat) (acc : List Int), n ≤ h → acc.length + n ≤ 100000 → chequerref04_quarter.l1 (k + n + 1) (x : Int) ((n : Int) - 1) (w : Int) (h : Int) (tab w h f) b0 b1 acc = chequerref04_quarter.l0 k ((x + 1 : Nat) : Int) (w : Int) (h : Int) (tab w h f) b0 b1 (acc ++ (List.range n).map (fun j => f x (n - 1 - j))) := by
  intro n
  induction n with
  | zero =>
    intro k acc hn ha
    rw [chequerref04_quarter.l1, if_neg (by omega), tw ((x : Int) + 1) (by omega) (by omega)]
    simp
  | succ n ih =>
    intro k acc hn ha
    rw [show ((n + 1 : Nat) : Int) - 1 = (n : Int) from by omega, show k + (n + 1) + 1 = (k + n + 1) + 1 from by omega, chequerref04_quarter.l1, if_pos (by omega), refat_is w h (by omega) (by omega) f x n hx (by omega), Option.bind_some, if_pos (by omega), tw ((n : Int) - 1) (by omega) (by omega), ih k (acc ++ [f x n]) (by omega) (by rw [List.length_append, List.length_singleton]; omega), rev_succ n (fun j => f x j), List.append_assoc]
    rfl
theorem mul_step (y w h : Nat) (hw : w ≤ 64) (hy : y ≤ 64) : y * w ≤ 4096 := Nat.mul_le_mul hy hw
theorem mir_rows (w h : Nat) (hw : w ≤ 64) (hh : h ≤ 64) (f : Nat → Nat → Int) (b0 b1 : Int) :
    ∀ (d y k : Nat), y + d = h → d * (w + 2) < k → chequerref04_mirror.l0 k (y : Int) (w : Int) (h : Int) (tab w h f) b0 b1 (tab w y (fun x y => f (w - 1 - x) y)) = some (b0, b1, tab w h (fun x y => f (w - 1 - x) y)) := by
  intro d
  induction d with
  | zero =>
    intro y k hd hk
    obtain ⟨k, rfl⟩ : ∃ m, k = m + 1 := ⟨k - 1, by omega⟩
    have : y = h := by omega
    subst this
    rw [chequerref04_mirror.l0, if_neg (by omega)]
  | succ d ih =>
    intro y k hd hk
    rw [Nat.succ_mul] at hk
    obtain ⟨k, rfl⟩ : ∃ m, k = m + w + 1 + 1 := ⟨k - w - 2, by omega⟩
    have hm := mul_step y w h hw (by omega)
    rw [chequerref04_mirror.l0, if_pos (by omega), tw ((w : Int) - 1) (by omega) (by omega), mir_row w h hw hh f y (by omega) b0 b1 w k _ (Nat.le_refl _) (by rw [tab_len]; omega)]
    exact ih (y + 1) k (by omega) (by omega)
theorem qua_rows (w h : Nat) (hw : w ≤ 64) (hh : h ≤ 64) (f : Nat → Nat → Int) (b0 b1 : Int) :
    ∀ (d x k : Nat), x + d = w → d * (h + 2) < k → chequerref04_quarter.l0 k (x : Int) (w : Int) (h : Int) (tab w h f) b0 b1 (tab h x (fun x y => f y (h - 1 - x))) = some (b0, b1, tab h w (fun x y => f y (h - 1 - x))) := by
  intro d
  induction d with
  | zero =>
    intro x k hd hk
    obtain ⟨k, rfl⟩ : ∃ m, k = m + 1 := ⟨k - 1, by omega⟩
    have : x = w := by omega
    subst this
    rw [chequerref04_quarter.l0, if_neg (by omega)]
  | succ d ih =>
    intro x k hd hk
    rw [Nat.succ_mul] at hk
    obtain ⟨k, rfl⟩ : ∃ m, k = m + h + 1 + 1 := ⟨k - h - 2, by omega⟩
    have hm := mul_step x h w hh (by omega)
    rw [chequerref04_quarter.l0, if_pos (by omega), tw ((h : Int) - 1) (by omega) (by omega), qua_row w h hw hh f x (by omega) b0 b1 h k _ (Nat.le_refl _) (by rw [tab_len]; omega)]
    exact ih (x + 1) k (by omega) (by omega)
theorem fuel_ok {d w k : Nat} (hd : d ≤ 64) (hw : w ≤ 64) (hk : 4300 ≤ k) : d * (w + 2) < k := by
  have : d * (w + 2) ≤ 64 * 66 := Nat.mul_le_mul hd (by omega)
  omega
theorem mirror_is (w h k : Nat) (hw : w ≤ 64) (hh : h ≤ 64) (f : Nat → Nat → Int) (hk : 4300 ≤ k) : chequerref04_mirror.f k (w : Int) (h : Int) (tab w h f) = some ((w : Int), (h : Int), tab w h (fun x y => f (w - 1 - x) y)) :=
  mir_rows w h hw hh f w h h 0 k (by omega) (fuel_ok hh hw hk)
theorem quarter_is (w h k : Nat) (hw : w ≤ 64) (hh : h ≤ 64) (f : Nat → Nat → Int) (hk : 4300 ≤ k) : chequerref04_quarter.f k (w : Int) (h : Int) (tab w h f) = some ((h : Int), (w : Int), tab h w (fun x y => f y (h - 1 - x))) :=
  qua_rows w h hw hh f h w w 0 k (by omega) (fuel_ok hw hh hk)
/-- The document's. -/
theorem reflay_is (g w h k : Nat) (hg : g < 8) (hw : 1 ≤ w ∧ w ≤ 64) (hh : 1 ≤ h ∧ h ≤ 64) (f : Nat → Nat → Int) (hk : 4300 ≤ k) : chequerref04_Lay.f k (w : Int) (h : Int) (tab w h f) (g : Int) = some ((layW g w h : Int), (layH g w h : Int), tab (layW g w h) (layH g w h) (layF g w h f), 0) := by
  obtain ⟨sw, sh⟩ := lay_small (g := g) hw hh
  have fin : ∀ (W H : Nat) (l l' : List Int), chequerref03_Sized.f (W : Int) (H : Int) = some true → l = l' → ((chequerref03_Sized.f (W : Int) (H : Int)).bind fun ok_ => if ok_ = true then some ((W : Int), (H : Int), l, (0 : Int)) else some (0, 0, [], 4)) = some ((W : Int), (H : Int), l', 0) := by
    intro W H l l' e el
    subst el
    rw [e, Option.bind_some, if_pos rfl]
  unfold chequerref04_Lay.f
  rw [if_pos (by omega)]
  have s1 := tsized w h hw hh
  have s2 := tsized h w hh hw
  have q1 := fun f => quarter_is w h k hw.2 hh.2 f hk
  have q2 := fun f => quarter_is h w k hh.2 hw.2 f hk
  have mm := fun f => mirror_is w h k hw.2 hh.2 f hk
  rcases turn8 hg with rfl | rfl | rfl | rfl | rfl | rfl | rfl | rfl
  · rw [if_neg (by omega), Option.bind_some]
    show (layQ k 0 _ _ _).bind _ = _
    rw [layQ, Option.bind_some]
    exact fin w h _ _ s1 rfl
  · rw [if_neg (by omega), Option.bind_some]
    show (layQ k 1 _ _ _).bind _ = _
    rw [layQ, q1, Option.bind_some, layQ, Option.bind_some]
    exact fin h w _ _ s2 rfl
  · rw [if_neg (by omega), Option.bind_some]
    show (layQ k 2 _ _ _).bind _ = _
    rw [layQ, q1, Option.bind_some, layQ, q2, Option.bind_some, layQ, Option.bind_some]
    exact fin w h _ _ s1 (tab_congr w h _ (layF 2 w h f) (fun x y hx hy => rfl))
  · rw [if_neg (by omega), Option.bind_some]
    show (layQ k 3 _ _ _).bind _ = _
    rw [layQ, q1, Option.bind_some, layQ, q2, Option.bind_some, layQ, q1, Option.bind_some, layQ, Option.bind_some]
    exact fin h w _ _ s2 (tab_congr h w _ (layF 3 w h f) (fun x y hx hy => by show f (w - 1 - y) (h - 1 - (h - 1 - x)) = f (w - 1 - y) x; rw [show h - 1 - (h - 1 - x) = x from by omega]))
  · rw [if_pos (by omega), mm, Option.bind_some]
    show (layQ k 0 _ _ _).bind _ = _
    rw [layQ, Option.bind_some]
    exact fin w h _ _ s1 rfl
  · rw [if_pos (by omega), mm, Option.bind_some]
    show (layQ k 1 _ _ _).bind _ = _
    rw [layQ, q1, Option.bind_some, layQ, Option.bind_some]
    exact fin h w _ _ s2 rfl
  · rw [if_pos (by omega), mm, Option.bind_some]
    show (layQ k 2 _ _ _).bind _ = _
    rw [layQ, q1, Option.bind_some, layQ, q2, Option.bind_some, layQ, Option.bind_some]
    exact fin w h _ _ s1 (tab_congr w h _ (layF 6 w h f) (fun x y hx hy => by show f (w - 1 - (w - 1 - x)) (h - 1 - y) = f x (h - 1 - y); rw [show w - 1 - (w - 1 - x) = x from by omega]))
  · rw [if_pos (by omega), mm, Option.bind_some]
    show (layQ k 3 _ _ _).bind _ = _
    rw [layQ, q1, Option.bind_some, layQ, q2, Option.bind_some, layQ, q1, Option.bind_some, layQ, Option.bind_some]
    exact fin h w _ _ s2 (tab_congr h w _ (layF 7 w h f) (fun x y hx hy => by show f (w - 1 - (w - 1 - y)) (h - 1 - (h - 1 - x)) = f y x; rw [show h - 1 - (h - 1 - x) = x from by omega, show w - 1 - (w - 1 - y) = y from by omega]))
theorem tmay (g : Nat) (hg : g < 8) : turn_May.f (g : Int) = some true := by
  unfold turn_May.f
  rw [if_pos (by omega), decide_eq_true (by omega)]
theorem tsize (g w h : Nat) (hg : g < 8) : turn_Size.f (w : Int) (h : Int) (g : Int) = some ((layW g w h : Int), (layH g w h : Int)) := by
  unfold turn_Size.f
  rw [tmay g hg, Option.bind_some, if_pos rfl]
  rcases turn8 hg with rfl | rfl | rfl | rfl | rfl | rfl | rfl | rfl <;> rfl
theorem from_is (g w h x y : Nat) (hg : g < 8) (hw : 1 ≤ w ∧ w ≤ 64) (hh : 1 ≤ h ∧ h ≤ 64) (hx : x < layW g w h) (hy : y < layH g w h) : turn_From.f (w : Int) (h : Int) (g : Int) (x : Int) (y : Int) = some ((layX g w h x y : Int), (layY g w h x y : Int)) := by
  unfold turn_From.f
  rw [if_pos (by omega)]
  have w1 : wrap64 ((w : Int) - 1) = (w : Int) - 1 := tw _ (by omega) (by omega)
  have h1 : wrap64 ((h : Int) - 1) = (h : Int) - 1 := tw _ (by omega) (by omega)
  rcases turn8 hg with rfl | rfl | rfl | rfl | rfl | rfl | rfl | rfl
  all_goals (simp [layW, layH] at hx hy)
  all_goals (simp only [fromA, fromB, layX, layY, w1, h1])
  all_goals (simp)
  all_goals (try constructor)
  all_goals (first | omega | (unfold wrap64; omega))
theorem at_is (w h : Nat) (hw : w ≤ 65536) (hh : h ≤ 65536) (f : Nat → Nat → Int) (x y : Nat) (hx : x < w) (hy : y < h) : rect_Matrix_At.f (w : Int) (h : Int) (tab w h f) (x : Int) (y : Int) = some (f x y, true) := by
  have hl := lt_mul hx hy
  unfold rect_Matrix_At.f rect_in.f
  rw [if_pos (by omega), Option.bind_some, decide_eq_true (by omega), if_pos rfl, if_pos (by omega), Option.bind_some, decide_eq_true (by omega), if_pos rfl, idx_w w y x hw (by omega) (by omega), if_pos (by omega), if_pos (by rw [tab_len]; omega), tab_rd w h f x y hx hy]
theorem twn (n : Nat) (h : n ≤ 1000000) : wrap64 (n : Int) = (n : Int) := by unfold wrap64; omega
theorem lay_loop (g w h : Nat) (hg : g < 8) (hw : 1 ≤ w ∧ w ≤ 64) (hh : 1 ≤ h ∧ h ≤ 64) (f : Nat → Nat → Int) :
    ∀ (d i k : Nat) (l : List Int), i + d = layH g w h * layW g w h → l.length = layH g w h * layW g w h → (∀ j, j < i → l[j]? = some (layF g w h f (j % layW g w h) (j / layW g w h))) → d < k →
      turn_Lay.l0 k (g : Int) ((layH g w h * layW g w h : Nat) : Int) (i : Int) (w : Int) (h : Int) (tab w h f) (layW g w h : Int) (layH g w h : Int) l = some ((layW g w h : Int), (layH g w h : Int), tab (layW g w h) (layH g w h) (layF g w h f), 0) := by
  obtain ⟨sw, sh⟩ := lay_small (g := g) hw hh
  have hm := mul_step (layH g w h) (layW g w h) 0 sw.2 sh.2
  intro d
  induction d with
  | zero =>
    intro i k l hd hl hj hk
    obtain ⟨k, rfl⟩ : ∃ m, k = m + 1 := ⟨k - 1, by omega⟩
    rw [turn_Lay.l0, if_neg (by omega), tab_ext (layW g w h) (layH g w h) l (layF g w h f) hl (fun j hj2 => hj j (by omega))]
  | succ d ih =>
    intro i k l hd hl hj hk
    obtain ⟨k, rfl⟩ : ∃ m, k = m + 1 := ⟨k - 1, by omega⟩
    obtain ⟨e1, e2, e3⟩ := tab_div (layW g w h) (layH g w h) i (by omega)
    have hle : i / layW g w h ≤ i := Nat.div_le_self _ _
    obtain ⟨e4, e5⟩ := lay_in hg e1 e2
    rw [turn_Lay.l0, if_pos (by omega), if_neg (by omega), Int.tmod_eq_emod_of_nonneg (by omega), Int.tdiv_eq_ediv_of_nonneg (by omega), show ((i : Int) % (layW g w h : Int)) = ((i % layW g w h : Nat) : Int) from rfl, show ((i : Int) / (layW g w h : Int)) = ((i / layW g w h : Nat) : Int) from rfl, twn (i / layW g w h) (Nat.le_trans hle (by omega)), from_is g w h _ _ hg hw hh e1 e2, Option.bind_some]
    dsimp only
    rw [at_is w h (by omega) (by omega) f _ _ e4 e5, Option.bind_some, if_pos (by omega), if_pos (by omega), tw ((i : Int) + 1) (by omega) (by omega), Int.toNat_natCast]
    refine ih (i + 1) k _ (by omega) (by rw [List.length_set]; exact hl) (fun j hj2 => ?_) (by omega)
    rw [List.getElem?_set]
    by_cases c : i = j
    · subst c
      rw [if_pos rfl, if_pos (by omega)]
      rfl
    · rw [if_neg c]
      exact hj j (by omega)
/-- The program's. -/
theorem turnlay_is (g w h k : Nat) (hg : g < 8) (hw : 1 ≤ w ∧ w ≤ 64) (hh : 1 ≤ h ∧ h ≤ 64) (f : Nat → Nat → Int) (hk : 4300 ≤ k) : turn_Lay.f k (w : Int) (h : Int) (tab w h f) (g : Int) = some ((layW g w h : Int), (layH g w h : Int), tab (layW g w h) (layH g w h) (layF g w h f), 0) := by
  obtain ⟨sw, sh⟩ := lay_small (g := g) hw hh
  have hm := mul_step (layH g w h) (layW g w h) 0 sw.2 sh.2
  unfold turn_Lay.f
  rw [tmay g hg, Option.bind_some, if_pos rfl, tsize g w h hg, Option.bind_some]
  dsimp only
  rw [tnew _ _ sw sh, Option.bind_some]
  dsimp only
  rw [if_pos rfl, List.length_replicate]
  exact lay_loop g w h hg hw hh f (layH g w h * layW g w h) 0 k _ (by omega) (by rw [List.length_replicate]) (fun j hj => by omega) (by omega)
theorem reflay_no (k : Nat) (w h : Int) (l : List Int) (g : Int) (hg : ¬ (0 ≤ g ∧ g ≤ 7)) : chequerref04_Lay.f k w h l g = some (0, 0, [], 1) := by
  unfold chequerref04_Lay.f
  rw [if_neg hg]
theorem tmay_no (g : Int) (hg : ¬ (0 ≤ g ∧ g ≤ 7)) : turn_May.f g = some false := by
  unfold turn_May.f
  by_cases c : g ≥ 0
  · rw [if_pos c, decide_eq_false (by omega)]
  · rw [if_neg c]
theorem turnlay_no (k : Nat) (w h : Int) (l : List Int) (g : Int) (hg : ¬ (0 ≤ g ∧ g ≤ 7)) : turn_Lay.f k w h l g = some (0, 0, [], 1) := by
  unfold turn_Lay.f
  rw [tmay_no g hg, Option.bind_some, if_neg (by decide)]
theorem tsize_no (w h g : Int) (hg : ¬ (0 ≤ g ∧ g ≤ 7)) : turn_Size.f w h g = some (0, 0) := by
  unfold turn_Size.f
  rw [tmay_no g hg, Option.bind_some, if_neg (by decide)]
end Go.Proofs.Ytehjnekljodmgaa.Q
