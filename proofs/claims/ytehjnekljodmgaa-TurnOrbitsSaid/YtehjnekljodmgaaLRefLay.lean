/- Both ways to lay a matrix, as tables. -/
import Derived.Test.YtehjnekljodmgaaIchequerref04_Lay
import Derived.Test.YtehjnekljodmgaaLLay
import Derived.Test.YtehjnekljodmgaaLTab
import Derived.Test.YtehjnekljodmgaaQ4
namespace Go.Proofs.Ytehjnekljodmgaa.Q
open Go.RowKit Go.Proofs.YtehjnekljodmgaaW.PrintWords Go.Proofs.YtehjnekljodmgaaW.PrintLast
set_option linter.unusedVariables false
theorem tsized (w h : Nat) (hw : 1 ≤ w ∧ w ≤ 64) (hh : 1 ≤ h ∧ h ≤ 64) : chequerref03_Sized.f (w : Int) (h : Int) = some true := by
  have a := small_mul hw.2 hh.2
  unfold chequerref03_Sized.f
  rw [if_neg (by omega), if_neg (by omega), if_neg (by omega), if_neg (by omega), ← Int.natCast_mul, Nat.mul_comm, tw _ (by omega) (by omega), decide_eq_true (by omega)]
theorem rev_succ (n : Nat) (p : Nat → Int) : (List.range (n + 1)).map (fun j => p (n + 1 - 1 - j)) = p n :: (List.range n).map (fun j => p (n - 1 - j)) := by
  rw [List.range_succ_eq_map, List.map_cons, List.map_map]
  congr 1
  apply List.map_congr_left
  intro j hj
  show p (n + 1 - 1 - (j + 1)) = p (n - 1 - j)
  congr 1
  omega
theorem mir_row (w h : Nat) (hw : w ≤ 64) (hh : h ≤ 64) (f : Nat → Nat → Int) (y : Nat) (hy : y < h) (b0 b1 : Int) :
    ∀ (n k : Nat) (acc : List Int), n ≤ w → acc.length + n ≤ 100000 → chequerref04_mirror.l1 (k + n + 1) (y : Int) ((n : Int) - 1) (w : Int) (h : Int) (tab w h f) b0 b1 acc = chequerref04_mirror.l0 k ((y + 1 : Nat) : Int) (w : Int) (h : Int) (tab w h f) b0 b1 (acc ++ (List.range n).map (fun j => f (n - 1 - j) y)) := by
  intro n
  induction n with
  | zero =>
    intro k acc hn ha
    rw [chequerref04_mirror.l1, if_neg (by omega), tw ((y : Int) + 1) (by omega) (by omega)]
    simp
  | succ n ih =>
    intro k acc hn ha
    rw [show ((n + 1 : Nat) : Int) - 1 = (n : Int) from by omega, show k + (n + 1) + 1 = (k + n + 1) + 1 from by omega, chequerref04_mirror.l1, if_pos (by omega), refat_is w h (by omega) (by omega) f n y (by omega) hy, Option.bind_some, if_pos (by omega), tw ((n : Int) - 1) (by omega) (by omega), ih k (acc ++ [f n y]) (by omega) (by rw [List.length_append, List.length_singleton]; omega), rev_succ n (fun j => f j y), List.append_assoc]
    rfl
theorem qua_row (w h : Nat) (hw : w ≤ 64) (hh : h ≤ 64) (f : Nat → Nat → Int) (x : Nat) (hx : x < w) (b0 b1 : Int) :
    ∀ (n k : Nat) (acc : List Int), n ≤ h → acc.length + n ≤ 100000 → chequerref04_quarter.l1 (k + n + 1) (x : Int) ((n : Int) - 1) (w : Int) (h : Int) (tab w h f) b0 b1 acc = chequerref04_quarter.l0 k ((x + 1 : Nat) : Int) (w : Int) (h : Int) (tab w h f) b0 b1 (acc ++ (List.range n).map (fun j => f x (n - 1 - j))) := by
  intro n
  induction n with
  | zero =>
    intro k acc hn ha
    rw [chequerref04_quarter.l1, if_neg (by omega), tw ((x : Int) + 1) (by omega) (by omega)]
    simp
  | succ n ih =>
    intro k acc hn ha
    rw [show ((n + 1 : Nat) : Int) - 1 = (n : Int) from by omega, show k + (n + 1) + 1 = (k + n + 1) + 1 from by omega, chequerref04_quarter.l1, if_pos (by omega), refat_is w h (by omega) (by omega) f x n hx (by omega), Option.bind_some, if_pos (by omega), tw ((n : Int) - 1) (by omega) (by omega), ih k (acc ++ [f x n]) (by omega) (by rw [List.length_append, List.length_singleton]; omega), rev_succ n (fun j => f x j), List.append_assoc]
    rfl
theorem mir_rows (w h : Nat) (hw : w ≤ 64) (hh : h ≤ 64) (f : Nat → Nat → Int) (b0 b1 : Int) :
    ∀ (d y k : Nat), y + d = h → d * (w + 2) < k → chequerref04_mirror.l0 k (y : Int) (w : Int) (h : Int) (tab w h f) b0 b1 (tab w y (fun x y => f (w - 1 - x) y)) = some (b0, b1, tab w h (fun x y => f (w - 1 - x) y)) := by
  intro d
  induction d with
  | zero =>
    intro y k hd hk
    obtain ⟨k, rfl⟩ : ∃ m, k = m + 1 := ⟨k - 1, by omega⟩
    have : y = h := by omega
    subst this
    rw [chequerref04_mirror.l0, if_neg (by omega)]
  | succ d ih =>
    intro y k hd hk
    rw [Nat.succ_mul] at hk
    obtain ⟨k, rfl⟩ : ∃ m, k = m + w + 1 + 1 := ⟨k - w - 2, by omega⟩
    have hm := mul_step y w h hw (by omega)
    rw [chequerref04_mirror.l0, if_pos (by omega), tw ((w : Int) - 1) (by omega) (by omega), mir_row w h hw hh f y (by omega) b0 b1 w k _ (Nat.le_refl _) (by rw [tab_len]; omega)]
    exact ih (y + 1) k (by omega) (by omega)
theorem qua_rows (w h : Nat) (hw : w ≤ 64) (hh : h ≤ 64) (f : Nat → Nat → Int) (b0 b1 : Int) :
    ∀ (d x k : Nat), x + d = w → d * (h + 2) < k → chequerref04_quarter.l0 k (x : Int) (w : Int) (h : Int) (tab w h f) b0 b1 (tab h x (fun x y => f y (h - 1 - x))) = some (b0, b1, tab h w (fun x y => f y (h - 1 - x))) := by
  intro d
  induction d with
  | zero =>
    intro x k hd hk
    obtain ⟨k, rfl⟩ : ∃ m, k = m + 1 := ⟨k - 1, by omega⟩
    have : x = w := by omega
    subst this
    rw [chequerref04_quarter.l0, if_neg (by omega)]
  | succ d ih =>
    intro x k hd hk
    rw [Nat.succ_mul] at hk
    obtain ⟨k, rfl⟩ : ∃ m, k = m + h + 1 + 1 := ⟨k - h - 2, by omega⟩
    have hm := mul_step x h w hh (by omega)
    rw [chequerref04_quarter.l0, if_pos (by omega), tw ((h : Int) - 1) (by omega) (by omega), qua_row w h hw hh f x (by omega) b0 b1 h k _ (Nat.le_refl _) (by rw [tab_len]; omega)]
    exact ih (x + 1) k (by omega) (by omega)
theorem fuel_ok {d w k : Nat} (hd : d ≤ 64) (hw : w ≤ 64) (hk : 4300 ≤ k) : d * (w + 2) < k := by
  have : d * (w + 2) ≤ 64 * 66 := Nat.mul_le_mul hd (by omega)
  omega
theorem mirror_is (w h k : Nat) (hw : w ≤ 64) (hh : h ≤ 64) (f : Nat → Nat → Int) (hk : 4300 ≤ k) : chequerref04_mirror.f k (w : Int) (h : Int) (tab w h f) = some ((w : Int), (h : Int), tab w h (fun x y => f (w - 1 - x) y)) :=
  mir_rows w h hw hh f w h h 0 k (by omega) (fuel_ok hh hw hk)
theorem quarter_is (w h k : Nat) (hw : w ≤ 64) (hh : h ≤ 64) (f : Nat → Nat → Int) (hk : 4300 ≤ k) : chequerref04_quarter.f k (w : Int) (h : Int) (tab w h f) = some ((h : Int), (w : Int), tab h w (fun x y => f y (h - 1 - x))) :=
  qua_rows w h hw hh f h w w 0 k (by omega) (fuel_ok hw hh hk)
/-- The document's. -/
theorem reflay_is (g w h k : Nat) (hg : g < 8) (hw : 1 ≤ w ∧ w ≤ 64) (hh : 1 ≤ h ∧ h ≤ 64) (f : Nat → Nat → Int) (hk : 4300 ≤ k) : chequerref04_Lay.f k (w : Int) (h : Int) (tab w h f) (g : Int) = some ((layW g w h : Int), (layH g w h : Int), tab (layW g w h) (layH g w h) (layF g w h f), 0) := by
  obtain ⟨sw, sh⟩ := lay_small (g := g) hw hh
  have fin : ∀ (W H : Nat) (l l' : List Int), chequerref03_Sized.f (W : Int) (H : Int) = some true → l = l' → ((chequerref03_Sized.f (W : Int) (H : Int)).bind fun ok_ => if ok_ = true then some ((W : Int), (H : Int), l, (0 : Int)) else some (0, 0, [], 4)) = some ((W : Int), (H : Int), l', 0) := by
    intro W H l l' e el
    subst el
    rw [e, Option.bind_some, if_pos rfl]
  unfold chequerref04_Lay.f
  rw [if_pos (by omega)]
  have s1 := tsized w h hw hh
  have s2 := tsized h w hh hw
  have q1 := fun f => quarter_is w h k hw.2 hh.2 f hk
  have q2 := fun f => quarter_is h w k hh.2 hw.2 f hk
  have mm := fun f => mirror_is w h k hw.2 hh.2 f hk
  rcases turn8 hg with rfl | rfl | rfl | rfl | rfl | rfl | rfl | rfl
  · rw [if_neg (by omega), Option.bind_some]
    show (layQ k 0 _ _ _).bind _ = _
    rw [layQ, Option.bind_some]
    exact fin w h _ _ s1 rfl
  · rw [if_neg (by omega), Option.bind_some]
    show (layQ k 1 _ _ _).bind _ = _
    rw [layQ, q1, Option.bind_some, layQ, Option.bind_some]
    exact fin h w _ _ s2 rfl
  · rw [if_neg (by omega), Option.bind_some]
    show (layQ k 2 _ _ _).bind _ = _
    rw [layQ, q1, Option.bind_some, layQ, q2, Option.bind_some, layQ, Option.bind_some]
    exact fin w h _ _ s1 (tab_congr w h _ (layF 2 w h f) (fun x y hx hy => rfl))
  · rw [if_neg (by omega), Option.bind_some]
    show (layQ k 3 _ _ _).bind _ = _
    rw [layQ, q1, Option.bind_some, layQ, q2, Option.bind_some, layQ, q1, Option.bind_some, layQ, Option.bind_some]
    exact fin h w _ _ s2 (tab_congr h w _ (layF 3 w h f) (fun x y hx hy => by show f (w - 1 - y) (h - 1 - (h - 1 - x)) = f (w - 1 - y) x; rw [show h - 1 - (h - 1 - x) = x from by omega]))
  · rw [if_pos (by omega), mm, Option.bind_some]
    show (layQ k 0 _ _ _).bind _ = _
    rw [layQ, Option.bind_some]
    exact fin w h _ _ s1 rfl
  · rw [if_pos (by omega), mm, Option.bind_some]
    show (layQ k 1 _ _ _).bind _ = _
    rw [layQ, q1, Option.bind_some, layQ, Option.bind_some]
    exact fin h w _ _ s2 rfl
  · rw [if_pos (by omega), mm, Option.bind_some]
    show (layQ k 2 _ _ _).bind _ = _
    rw [layQ, q1, Option.bind_some, layQ, q2, Option.bind_some, layQ, Option.bind_some]
    exact fin w h _ _ s1 (tab_congr w h _ (layF 6 w h f) (fun x y hx hy => by show f (w - 1 - (w - 1 - x)) (h - 1 - y) = f x (h - 1 - y); rw [show w - 1 - (w - 1 - x) = x from by omega]))
  · rw [if_pos (by omega), mm, Option.bind_some]
    show (layQ k 3 _ _ _).bind _ = _
    rw [layQ, q1, Option.bind_some, layQ, q2, Option.bind_some, layQ, q1, Option.bind_some, layQ, Option.bind_some]
    exact fin h w _ _ s2 (tab_congr h w _ (layF 7 w h f) (fun x y hx hy => by show f (w - 1 - (w - 1 - y)) (h - 1 - (h - 1 - x)) = f y x; rw [show h - 1 - (h - 1 - x) = x from by omega, show w - 1 - (w - 1 - y) = y from by omega]))
theorem reflay_no (k : Nat) (w h : Int) (l : List Int) (g : Int) (hg : ¬ (0 ≤ g ∧ g ≤ 7)) : chequerref04_Lay.f k w h l g = some (0, 0, [], 1) := by
  unfold chequerref04_Lay.f
  rw [if_neg hg]
end Go.Proofs.Ytehjnekljodmgaa.Q
