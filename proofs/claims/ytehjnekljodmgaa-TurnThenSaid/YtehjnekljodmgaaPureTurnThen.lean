/- Two turns one behind the other are the one that is told; what is laid, and laid back, is as it was: for any matrix, any two numbers. No condition. -/
import Derived.Test.YtehjnekljodmgaaLAround
import Derived.Test.YtehjnekljodmgaaLLay
import Derived.Test.YtehjnekljodmgaaLLives04
import Derived.Test.YtehjnekljodmgaaLTab
import Derived.Test.YtehjnekljodmgaaQ10
import Derived.Test.YtehjnekljodmgaaQ3
import Derived.Test.YtehjnekljodmgaaQ6
import Derived.Test.YtehjnekljodmgaaQ8
import Derived.Test.YtehjnekljodmgaaQ9
namespace Go.Proofs.Ytehjnekljodmgaa.Pure
open Go.RowKit Go.Proofs.Ytehjnekljodmgaa.Q Go.Proofs.YtehjnekljodmgaaW.PrintWords Go.Proofs.YtehjnekljodmgaaW.PrintLast
def thS (g h : Nat) : Nat := ((if h ≥ 4 then 4 - g % 4 else g % 4) + h % 4) % 4 + 4 * ((g / 4 + h / 4) % 2)
def bkS (g : Nat) : Nat := if g ≥ 4 then g else (4 - g) % 4
set_option maxRecDepth 100000 in
theorem then_tab : ∀ g h : Fin 8, turn_Then.f 12 ((g : Nat) : Int) ((h : Nat) : Int) = some ((thS g h : Nat) : Int) := by decide +kernel
set_option maxRecDepth 100000 in
theorem back_tab : ∀ g : Fin 8, turn_Back.f 24 ((g : Nat) : Int) = some ((bkS g : Nat) : Int) := by decide +kernel
set_option maxRecDepth 100000 in
set_option maxHeartbeats 4000000 in
theorem refthen_tab : ∀ g h : Fin 8, chequerref04_Then.f 80 ((g : Nat) : Int) ((h : Nat) : Int) = some ((thS g h : Nat) : Int) := by decide +kernel
set_option maxRecDepth 100000 in
set_option maxHeartbeats 4000000 in
theorem refback_tab : ∀ g : Fin 8, chequerref04_Back.f 120 ((g : Nat) : Int) = some ((bkS g : Nat) : Int) := by decide +kernel
theorem up_to {α : Type} (f : Nat → Option α) (hm : ∀ k, LeO (f k) (f (k + 1))) (k0 : Nat) (r : α) (h : f k0 = some r) : ∀ d, f (k0 + d) = some r
  | 0 => h
  | d + 1 => hm (k0 + d) r (up_to f hm k0 r h d)
theorem then_is (g h k : Nat) (hg : g < 8) (hh : h < 8) (hk : 12 ≤ k) : turn_Then.f k (g : Int) (h : Int) = some ((thS g h : Nat) : Int) := by
  obtain ⟨d, rfl⟩ : ∃ d, k = 12 + d := ⟨k - 12, by omega⟩
  exact up_to (fun k => turn_Then.f k (g : Int) (h : Int)) (fun k => turn_Then.mono _ _ k) 12 _ (then_tab ⟨g, hg⟩ ⟨h, hh⟩) d
theorem back_is (g k : Nat) (hg : g < 8) (hk : 24 ≤ k) : turn_Back.f k (g : Int) = some ((bkS g : Nat) : Int) := by
  obtain ⟨d, rfl⟩ : ∃ d, k = 24 + d := ⟨k - 24, by omega⟩
  exact up_to (fun k => turn_Back.f k (g : Int)) (fun k => turn_Back.mono _ k) 24 _ (back_tab ⟨g, hg⟩) d
theorem refthen_is (g h k : Nat) (hg : g < 8) (hh : h < 8) (hk : 80 ≤ k) : chequerref04_Then.f k (g : Int) (h : Int) = some ((thS g h : Nat) : Int) := by
  obtain ⟨d, rfl⟩ : ∃ d, k = 80 + d := ⟨k - 80, by omega⟩
  exact up_to (fun k => chequerref04_Then.f k (g : Int) (h : Int)) (fun k => chequerref04_Then.mono _ _ k) 80 _ (refthen_tab ⟨g, hg⟩ ⟨h, hh⟩) d
theorem refback_is (g k : Nat) (hg : g < 8) (hk : 120 ≤ k) : chequerref04_Back.f k (g : Int) = some ((bkS g : Nat) : Int) := by
  obtain ⟨d, rfl⟩ : ∃ d, k = 120 + d := ⟨k - 120, by omega⟩
  exact up_to (fun k => chequerref04_Back.f k (g : Int)) (fun k => chequerref04_Back.mono _ k) 120 _ (refback_tab ⟨g, hg⟩) d
theorem thS_lt (g h : Nat) (hg : g < 8) (hh : h < 8) : thS g h < 8 := by unfold thS; omega
theorem bkS_lt (g : Nat) (hg : g < 8) : bkS g < 8 := by unfold bkS; split <;> omega
theorem then_out (g h : Int) (k : Nat) (hk : 12 ≤ k) (ho : ¬ ((0 ≤ g ∧ g ≤ 7) ∧ (0 ≤ h ∧ h ≤ 7))) : turn_Then.f k g h = some (-1) := by
  obtain ⟨k, rfl⟩ : ∃ q, k = q + 1 := ⟨k - 1, by omega⟩
  unfold turn_Then.f
  by_cases hg : 0 ≤ g ∧ g ≤ 7
  · obtain ⟨g, rfl⟩ : ∃ n : Nat, g = (n : Int) := ⟨g.toNat, by omega⟩
    rw [tmay g (by omega), Option.bind_some, if_pos rfl, tmay_no h (by omega), Option.bind_some, turn_Then.j0, if_pos (show (!false) = true from rfl)]
  · rw [tmay_no g hg, Option.bind_some, if_neg (by decide), turn_Then.j0, if_pos rfl]
theorem refthen_out (g h : Int) (k : Nat) (hk : 12 ≤ k) (ho : ¬ ((0 ≤ g ∧ g ≤ 7) ∧ (0 ≤ h ∧ h ≤ 7))) : chequerref04_Then.f k g h = some (-1) := by
  obtain ⟨k, rfl⟩ : ∃ q, k = q + 1 := ⟨k - 1, by omega⟩
  unfold chequerref04_Then.f
  by_cases h1 : g < 0
  · rw [if_pos h1, chequerref04_Then.j0, if_pos rfl]
  · rw [if_neg h1]
    by_cases h2 : g > 7
    · rw [if_pos h2, chequerref04_Then.j0, if_pos rfl]
    · rw [if_neg h2]
      by_cases h3 : h < 0
      · rw [if_pos h3, chequerref04_Then.j0, if_pos rfl]
      · rw [if_neg h3, chequerref04_Then.j0, if_pos (decide_eq_true (by omega))]
theorem both_then (g h : Int) (k : Nat) (hk : 80 ≤ k) : ∃ v, turn_Then.f k g h = some v ∧ chequerref04_Then.f k g h = some v := by
  by_cases ho : (0 ≤ g ∧ g ≤ 7) ∧ (0 ≤ h ∧ h ≤ 7)
  · obtain ⟨g, rfl⟩ : ∃ n : Nat, g = (n : Int) := ⟨g.toNat, by omega⟩
    obtain ⟨h, rfl⟩ : ∃ n : Nat, h = (n : Int) := ⟨h.toNat, by omega⟩
    exact ⟨_, then_is g h k (by omega) (by omega) (by omega), refthen_is g h k (by omega) (by omega) hk⟩
  · exact ⟨_, then_out g h k (by omega) ho, refthen_out g h k (by omega) ho⟩
theorem refback_out (g : Int) (ho : ¬ (0 ≤ g ∧ g ≤ 7)) : ∀ (d i k : Nat), i + d = 8 → d + 20 ≤ k → chequerref04_Back.l0 k g (i : Int) = some (-1) := by
  intro d
  induction d with
  | zero =>
    intro i k hd hk
    obtain ⟨k, rfl⟩ : ∃ q, k = q + 1 := ⟨k - 1, by omega⟩
    rw [chequerref04_Back.l0, if_neg (by omega)]
  | succ d ih =>
    intro i k hd hk
    obtain ⟨k, rfl⟩ : ∃ q, k = q + 1 := ⟨k - 1, by omega⟩
    rw [chequerref04_Back.l0, if_pos (by omega), refthen_out g _ k (by omega) (by omega), Option.bind_some, if_neg (by decide), tw _ (by omega) (by omega)]
    exact ih (i + 1) k (by omega) (by omega)
theorem both_back (g : Int) (k : Nat) (hk : 120 ≤ k) : ∃ v, turn_Back.f k g = some v ∧ chequerref04_Back.f k g = some v := by
  by_cases ho : 0 ≤ g ∧ g ≤ 7
  · obtain ⟨g, rfl⟩ : ∃ n : Nat, g = (n : Int) := ⟨g.toNat, by omega⟩
    exact ⟨_, back_is g k (by omega) (by omega), refback_is g k (by omega) hk⟩
  · refine ⟨-1, ?_, ?_⟩
    · unfold turn_Back.f
      rw [tmay_no g ho, Option.bind_some, if_neg (by decide)]
    · exact refback_out g ho 8 0 k (by omega) (by omega)
theorem lay_then (g h w t x y : Nat) (hg : g < 8) (hh : h < 8) (hx : x < layW (thS g h) w t) (hy : y < layH (thS g h) w t) :
    layW h (layW g w t) (layH g w t) = layW (thS g h) w t ∧ layH h (layW g w t) (layH g w t) = layH (thS g h) w t ∧
    layX g w t (layX h (layW g w t) (layH g w t) x y) (layY h (layW g w t) (layH g w t) x y) = layX (thS g h) w t x y ∧ layY g w t (layX h (layW g w t) (layH g w t) x y) (layY h (layW g w t) (layH g w t) x y) = layY (thS g h) w t x y := by
  rcases turn8 hg with rfl | rfl | rfl | rfl | rfl | rfl | rfl | rfl <;> rcases turn8 hh with rfl | rfl | rfl | rfl | rfl | rfl | rfl | rfl <;> simp [layW, layH, layX, layY, thS] at * <;> omega
theorem lay_sizes (g h w t : Nat) (hg : g < 8) (hh : h < 8) : layW h (layW g w t) (layH g w t) = layW (thS g h) w t ∧ layH h (layW g w t) (layH g w t) = layH (thS g h) w t := by
  rcases turn8 hg with rfl | rfl | rfl | rfl | rfl | rfl | rfl | rfl <;> rcases turn8 hh with rfl | rfl | rfl | rfl | rfl | rfl | rfl | rfl <;> simp [layW, layH, thS]
theorem then_tabs (g h w t : Nat) (f : Nat → Nat → Int) (hg : g < 8) (hh : h < 8) : tab (layW h (layW g w t) (layH g w t)) (layH h (layW g w t) (layH g w t)) (layF h (layW g w t) (layH g w t) (layF g w t f)) = tab (layW (thS g h) w t) (layH (thS g h) w t) (layF (thS g h) w t f) := by
  obtain ⟨e1, e2⟩ := lay_sizes g h w t hg hh
  rw [e1, e2]
  refine tab_congr _ _ _ _ (fun x y hx hy => ?_)
  obtain ⟨_, _, e3, e4⟩ := lay_then g h w t x y hg hh hx hy
  unfold layF
  rw [e3, e4]
theorem th_back (g : Nat) (hg : g < 8) : thS g (bkS g) = 0 := by
  rcases turn8 hg with rfl | rfl | rfl | rfl | rfl | rfl | rfl | rfl <;> rfl
theorem TurnThen : chequerlaw04_TurnThen.Pure := by
  intro m0 m1 l g h h0 h1 hl hx hg hh
  obtain ⟨w, t, f, hw, ht, hG⟩ := good_is m0 m1 l 6 (by omega) (wf_i64 h0) (wf_i64 h1)
  have mg := wf_i64 hg
  have mh := wf_i64 hh
  refine ⟨60000, ?_⟩
  obtain ⟨a0, a1⟩ := aroundZ_range g 8 (by omega)
  obtain ⟨b0, b1⟩ := aroundZ_range h 8 (by omega)
  have eg := around_is g 8 mg.1 mg.2 (by omega)
  have eh := around_is h 8 mh.1 mh.2 (by omega)
  obtain ⟨p, hp⟩ : ∃ n : Nat, aroundZ g 8 = (n : Int) := ⟨(aroundZ g 8).toNat, by omega⟩
  obtain ⟨q, hq⟩ : ∃ n : Nat, aroundZ h 8 = (n : Int) := ⟨(aroundZ h 8).toNat, by omega⟩
  have hp8 : p < 8 := by omega
  have hq8 : q < 8 := by omega
  rw [hp] at eg
  rw [hq] at eh
  have e1 := hG 60000 (by omega)
  rw [show ((6 : Nat) : Int) = 6 from rfl] at e1
  have hw' : 1 ≤ w ∧ w ≤ 64 := by omega
  have ht' : 1 ≤ t ∧ t ≤ 64 := by omega
  obtain ⟨sw, st⟩ := lay_small (g := p) hw' ht'
  have hT := thS_lt p q hp8 hq8
  have hB := bkS_lt p hp8
  obtain ⟨v1, c1, c2⟩ := both_then g h 60000 (by omega)
  obtain ⟨v2, c3, c4⟩ := both_back g 60000 (by omega)
  have d1 := then_is p q 60000 hp8 hq8 (by omega)
  have d2 := refthen_is p q 60000 hp8 hq8 (by omega)
  have d3 := back_is p 60000 hp8 (by omega)
  have d4 := refback_is p 60000 hp8 (by omega)
  obtain ⟨z1, z2⟩ := lay_sizes p q w t hp8 hq8
  obtain ⟨y1, y2⟩ := lay_sizes p (bkS p) w t hp8 hB
  have x1 := then_tabs p q w t f hp8 hq8
  have x2 := then_tabs p (bkS p) w t f hp8 hB
  rw [th_back p hp8] at x2 y1 y2
  have i0 : tab (layW 0 w t) (layH 0 w t) (layF 0 w t f) = tab w t f := rfl
  have i1 : layW 0 w t = w := rfl
  have i2 : layH 0 w t = t := rfl
  obtain ⟨rw1, rt1⟩ := lay_small (g := thS p q) hw' ht'
  have hm1 := mul_step (layH (thS p q) w t) (layW (thS p q) w t) 0 rw1.2 rt1.2
  have hm2 := mul_step t w 0 hw'.2 ht'.2
  unfold chequerlaw04_TurnThen.f
  rw [e1, Option.bind_some, eg, Option.bind_some, eh, Option.bind_some]
  unfold chequerlaw04_of.f
  rw [Option.bind_some]
  dsimp only
  rw [turnlay_is p w t _ hp8 hw' ht' f (by omega), Option.bind_some]
  dsimp only
  rw [turnlay_is q (layW p w t) (layH p w t) _ hq8 sw st (layF p w t f) (by omega), Option.bind_some, Option.bind_some, d1, Option.bind_some]
  dsimp only
  rw [turnlay_is (thS p q) w t _ hT hw' ht' f (by omega), Option.bind_some, d3, Option.bind_some, turnlay_is (bkS p) (layW p w t) (layH p w t) _ hB sw st (layF p w t f) (by omega), Option.bind_some, c1, Option.bind_some, c2, Option.bind_some, if_pos rfl, Option.bind_some, d2, Option.bind_some, if_pos rfl, c3, Option.bind_some, c4, Option.bind_some, if_pos rfl, Option.bind_some, d4, Option.bind_some, if_pos rfl]
  unfold chequerlaw04_as.f
  rw [Option.bind_some, Option.bind_some]
  dsimp only
  rw [x1, z1, z2, same_self _ _ _ _ (by rw [tab_len]; omega) (by rw [tab_len]; omega), Option.bind_some, if_pos rfl, Option.bind_some]
  dsimp only
  rw [x2, y1, y2, i0, i1, i2, same_self _ _ _ _ (by rw [tab_len]; omega) (by rw [tab_len]; omega), Option.bind_some, if_pos rfl, lives04 60000 (by omega)]
  rfl
end Go.Proofs.Ytehjnekljodmgaa.Pure
