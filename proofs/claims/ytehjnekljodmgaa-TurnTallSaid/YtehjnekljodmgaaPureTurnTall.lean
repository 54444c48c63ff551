/- What would be too wide is not laid: for any number. No condition. -/
import Derived.Test.YtehjnekljodmgaaIrect_Matrix
import Derived.Test.YtehjnekljodmgaaIturn_From
import Derived.Test.YtehjnekljodmgaaLAround
import Derived.Test.YtehjnekljodmgaaLLay
import Derived.Test.YtehjnekljodmgaaLLives04
import Derived.Test.YtehjnekljodmgaaLOrbit
import Derived.Test.YtehjnekljodmgaaLTab
import Derived.Test.YtehjnekljodmgaaQ13
import Derived.Test.YtehjnekljodmgaaQ17
import Derived.Test.YtehjnekljodmgaaQ3
namespace Go.Proofs.Ytehjnekljodmgaa.Pure
open Go.RowKit Go.Proofs.Ytehjnekljodmgaa.Q Go.Proofs.YtehjnekljodmgaaW.PrintWords Go.Proofs.YtehjnekljodmgaaW.PrintLast
set_option linter.unusedVariables false
def zs (n : Nat) : List Int := List.replicate n 0
theorem zs_len (n : Nat) : (zs n).length = n := List.length_replicate ..
theorem rd_zs (n : Nat) (i : Int) : rd (zs n) i = 0 := by
  unfold rd zs
  rw [List.getD_eq_getElem?_getD, List.getElem?_replicate]
  split <;> rfl
theorem at_zs (h : Nat) (hh : h ≤ 5000) (x y : Int) : ∃ b, rect_Matrix_At.f 1 (h : Int) (zs h) x y = some (0, b) := by
  unfold rect_Matrix_At.f rect_in.f
  by_cases hx : x ≥ 0
  · rw [if_pos hx, Option.bind_some]
    by_cases hx1 : x < 1
    · rw [decide_eq_true hx1, if_pos rfl]
      by_cases hy : y ≥ 0
      · rw [if_pos hy, Option.bind_some]
        by_cases hy1 : y < (h : Int)
        · have w1 : wrap64 (y * 1) = y := by rw [Int.mul_one]; exact tw _ (by omega) (by omega)
          have w2 : wrap64 (y + x) = y + x := tw _ (by clear w1; omega) (by clear w1; omega)
          rw [decide_eq_true hy1, if_pos rfl, w1, w2]
          clear w1 w2
          rw [if_pos (by omega), if_pos (by rw [zs_len]; omega), rd_zs]
          exact ⟨true, rfl⟩
        · rw [decide_eq_false hy1, if_neg (by decide)]
          exact ⟨false, rfl⟩
      · rw [if_neg hy, Option.bind_some, if_neg (by decide)]
        exact ⟨false, rfl⟩
    · rw [decide_eq_false hx1, if_neg (by decide)]
      exact ⟨false, rfl⟩
  · rw [if_neg hx, Option.bind_some, if_neg (by decide)]
    exact ⟨false, rfl⟩
theorem from_some (w h g x y : Int) (hg : 0 ≤ g ∧ g < 8) : ∃ p, turn_From.f w h g x y = some p := by
  unfold turn_From.f
  rw [if_pos hg]
  exact ⟨_, rfl⟩
theorem tall_loop (g h : Nat) (hg : g < 8) (hh : h ≤ 5000) (a b : Int) (ha : a ≠ 0) : ∀ (d i k : Nat), i + d = h → d < k →
    turn_Lay.l0 k (g : Int) (h : Int) (i : Int) 1 (h : Int) (zs h) a b (zs h) = some (a, b, zs h, 0) := by
  intro d
  induction d with
  | zero =>
    intro i k hd hk
    obtain ⟨k, rfl⟩ : ∃ m, k = m + 1 := ⟨k - 1, by omega⟩
    rw [turn_Lay.l0, if_neg (by omega)]
  | succ d ih =>
    intro i k hd hk
    obtain ⟨k, rfl⟩ : ∃ m, k = m + 1 := ⟨k - 1, by omega⟩
    have hn := ih (i + 1) k (by omega) (by omega)
    obtain ⟨p, hp⟩ := from_some 1 (h : Int) (g : Int) (Int.tmod (i : Int) a) (wrap64 (Int.tdiv (i : Int) a)) (by omega)
    obtain ⟨q, hq⟩ := at_zs h hh p.1 p.2
    have hset : (zs h).set ((i : Int)).toNat 0 = zs h := by
      unfold zs
      exact List.set_replicate_self
    rw [turn_Lay.l0, if_pos (by omega), if_neg ha, hp, Option.bind_some, hq, Option.bind_some, if_pos (by omega), if_pos (by rw [zs_len]; omega)]
    dsimp only
    rw [hset, tw ((i : Int) + 1) (by clear hp; omega) (by clear hp; omega)]
    exact hn
def tallT (h g : Nat) : TM := if g % 2 = 0 then (1, (h : Int), zs h) else if h ≤ 4096 then ((h : Int), 1, zs h) else (0, 0, [])
def tallE (h g : Nat) : Int := if g % 2 = 1 ∧ 4096 < h then 4 else 0
theorem tallT_even (h g : Nat) (c : g % 2 = 0) : tallT h g = (1, (h : Int), zs h) := by unfold tallT; rw [if_pos c]
theorem tallT_odd (h g : Nat) (c : g % 2 = 1) (c2 : h ≤ 4096) : tallT h g = ((h : Int), 1, zs h) := by unfold tallT; rw [if_neg (by omega), if_pos c2]
theorem tallT_no (h g : Nat) (c : g % 2 = 1) (c2 : 4096 < h) : tallT h g = (0, 0, []) := by unfold tallT; rw [if_neg (by omega), if_neg (by omega)]
theorem tallE_ok (h g : Nat) (c : ¬ (g % 2 = 1 ∧ 4096 < h)) : tallE h g = 0 := by unfold tallE; rw [if_neg c]
theorem tallE_no (h g : Nat) (c : g % 2 = 1 ∧ 4096 < h) : tallE h g = 4 := by unfold tallE; rw [if_pos c]
theorem new_tall (a b h : Nat) (ha : 1 ≤ a ∧ a ≤ 4096) (hb : 1 ≤ b ∧ b ≤ 65536) (e : a * b = h) (hh : h ≤ 5000) : rect_New.f (a : Int) (b : Int) = some ((a : Int), (b : Int), zs h, 0) := by
  have w1 : wrap64 ((a : Int) * (b : Int)) = (h : Int) := by rw [← Int.natCast_mul, e]; exact tw _ (by omega) (by omega)
  unfold rect_New.f rect_sized.f
  rw [if_pos (by clear w1; omega), if_pos (by clear w1; omega), if_pos (by clear w1; omega), if_pos (by clear w1; omega), Option.bind_some, w1]
  clear w1
  rw [decide_eq_true (by omega), if_pos rfl, if_pos (by omega), if_pos (by omega), Int.toNat_natCast]
  rfl
theorem new_wide (a : Nat) (ha : 4096 < a) : rect_New.f (a : Int) ((1 : Nat) : Int) = some (0, 0, [], 1) := by
  unfold rect_New.f rect_sized.f
  rw [if_pos (by omega), if_neg (by omega), Option.bind_some, if_neg (by decide)]
theorem lay_tall (g h k : Nat) (hg : g < 8) (hh : 4090 ≤ h ∧ h ≤ 4103) (hk : 4200 ≤ k) : turn_Lay.f k 1 (h : Int) (zs h) (g : Int) = some ((tallT h g).1, (tallT h g).2.1, (tallT h g).2.2, tallE h g) := by
  unfold turn_Lay.f
  have ts := tsize g 1 h hg
  rw [show ((1 : Nat) : Int) = 1 from rfl] at ts
  rw [tmay g hg, Option.bind_some, if_pos rfl, ts, Option.bind_some]
  dsimp only
  unfold tallT tallE layW layH
  by_cases c : g % 2 = 0
  · rw [if_pos c, if_pos c, if_pos c, if_neg (by omega), new_tall 1 h h (by omega) (by omega) (by omega) (by omega), Option.bind_some]
    dsimp only
    rw [if_pos rfl, zs_len]
    exact tall_loop g h hg (by omega) _ _ (by decide) h 0 k (by omega) (by omega)
  · rw [if_neg c, if_neg c, if_neg c]
    by_cases c2 : h ≤ 4096
    · rw [if_pos c2, if_neg (by omega), new_tall h 1 h (by omega) (by omega) (by omega) (by omega), Option.bind_some]
      dsimp only
      rw [if_pos rfl, zs_len]
      exact tall_loop g h hg (by omega) _ _ (by omega) h 0 k (by omega) (by omega)
    · rw [if_neg c2, if_pos (by omega), new_wide h (by omega), Option.bind_some]
      rfl
/-- One turn more. -/
theorem orb_new (h : Nat) (hh : 4090 ≤ h ∧ h ≤ 4103) (l : List Int) (out : List TM) (wh : List Int) (i g k : Nat) (hi : i < l.length) (hl : l.length ≤ 100) (hr : rd l (i : Int) = (g : Int)) (hg : g < 8) (hk : 4300 ≤ k) (ho : out.length ≤ 100) (hw : wh.length ≤ 100) (hs : ∀ s ∈ out, s.2.2.length = h) (e : tallE h g = 0) (hx : (tallT h g).2.2.length = h) :
    turn_Orbit.l0 (k + 1) (out.map mkP) wh l (l.length : Int) (i : Int) 1 (h : Int) (zs h) = if findT (tallT h g) 0 out < 0 then turn_Orbit.l0 k ((out ++ [tallT h g]).map mkP) (wh ++ [(out.length : Int)]) l (l.length : Int) ((i + 1 : Nat) : Int) 1 (h : Int) (zs h) else turn_Orbit.l0 k (out.map mkP) (wh ++ [findT (tallT h g) 0 out]) l (l.length : Int) ((i + 1 : Nat) : Int) 1 (h : Int) (zs h) := by
  have hlen : (out.map mkP).length = out.length := List.length_map ..
  have w1 : wrap64 ((i : Int) + 1) = ((i + 1 : Nat) : Int) := by rw [tw _ (by omega) (by omega)]; push_cast; rfl
  rw [turn_Orbit.l0, if_pos (by clear w1; omega), if_pos (by clear w1; omega), if_pos (by clear w1; omega), hr, lay_tall g h k hg hh (by clear w1; omega), Option.bind_some, w1]
  clear w1
  dsimp only
  unfold slices_IndexFunc_Same.f
  rw [if_pos e, if_pos (by rw [hlen]; omega), idx_find (tallT h g) h (by omega) hx out 0 hs, Option.bind_some]
  by_cases c : findT (tallT h g) 0 out < 0
  · rw [if_pos c, if_pos c, if_pos (by rw [hlen]; omega), if_pos (by omega), hlen, List.map_append]
    rfl
  · rw [if_neg c, if_neg c, if_pos (by omega)]
theorem orb_err (h : Nat) (hh : 4090 ≤ h ∧ h ≤ 4103) (l : List Int) (out : List TM) (wh : List Int) (i g k : Nat) (hi : i < l.length) (hl : l.length ≤ 100) (hr : rd l (i : Int) = (g : Int)) (hg : g < 8) (hk : 4300 ≤ k) (hw : wh.length ≤ 100) (e : tallE h g ≠ 0) :
    turn_Orbit.l0 (k + 1) (out.map mkP) wh l (l.length : Int) (i : Int) 1 (h : Int) (zs h) = turn_Orbit.l0 k (out.map mkP) (wh ++ [-1]) l (l.length : Int) ((i + 1 : Nat) : Int) 1 (h : Int) (zs h) := by
  have w1 : wrap64 ((i : Int) + 1) = ((i + 1 : Nat) : Int) := by rw [tw _ (by omega) (by omega)]; push_cast; rfl
  rw [turn_Orbit.l0, if_pos (by clear w1; omega), if_pos (by clear w1; omega), if_pos (by clear w1; omega), hr, lay_tall g h k hg hh (by clear w1; omega), Option.bind_some, w1]
  clear w1
  dsimp only
  rw [if_neg e, if_pos (by omega)]
def whT (h : Nat) : List Int := if h ≤ 4096 then [0, 1, 0, 1, 0, 1, 0, 1] else [0, -1, 0, -1, 0, -1, 0, -1]
theorem orb_end (h : Nat) (l : List Int) (o : List S26) (wh : List Int) (k : Nat) : turn_Orbit.l0 (k + 1) o wh l (l.length : Int) (l.length : Int) 1 (h : Int) (zs h) = some (o, wh) := by
  rw [turn_Orbit.l0, if_neg (by omega)]
theorem orb_tall (h k : Nat) (hh : 4090 ≤ h ∧ h ≤ 4103) (hk : 5000 ≤ k) : ∃ R, turn_Orbit.f k 1 (h : Int) (zs h) [0, 1, 2, 3, 4, 5, 6, 7] = some (R, whT h) := by
  obtain ⟨k, rfl⟩ : ∃ m, k = m + 9 := ⟨k - 9, by omega⟩
  have ev : ∀ g, g % 2 = 0 → tallT h g = (1, (h : Int), zs h) ∧ tallE h g = 0 := fun g c => ⟨by unfold tallT; rw [if_pos c], by unfold tallE; rw [if_neg (by omega)]⟩
  have hz : ((1, (h : Int), zs h) : TM).2.2.length = h := zs_len h
  have hz2 : (((h : Int), 1, zs h) : TM).2.2.length = h := zs_len h
  have ne : ¬ (((1 : Int), (h : Int), zs h) : TM) = ((h : Int), 1, zs h) := fun e => by
    have := ((tm_eq _ _).1 e).1
    dsimp only at this
    omega
  have ne' : ¬ (((h : Int), (1 : Int), zs h) : TM) = (1, (h : Int), zs h) := fun e => ne e.symm
  obtain ⟨E, hE⟩ : ∃ E : TM, E = (1, (h : Int), zs h) := ⟨_, rfl⟩
  obtain ⟨O, hO⟩ : ∃ O : TM, O = ((h : Int), 1, zs h) := ⟨_, rfl⟩
  rw [← hE] at hz ne ne'
  rw [← hO] at hz2 ne ne'
  have evE : ∀ g, g % 2 = 0 → tallT h g = E ∧ tallE h g = 0 := fun g c => by rw [hE]; exact ev g c
  have f0 : findT E 0 [] < 0 := by show (-1 : Int) < 0; decide
  have f1 : findT E 0 [E] = 0 := by rw [findT, if_pos rfl]; rfl
  have f2 : findT O 0 [E] < 0 := by rw [findT, if_neg ne, findT]; decide
  have f3 : findT E 0 [E, O] = 0 := by rw [findT, if_pos rfl]; rfl
  have f4 : findT O 0 [E, O] = 1 := by rw [findT, if_neg ne, findT, if_pos rfl]; rfl
  have m0 : ∀ s ∈ ([] : List TM), s.2.2.length = h := fun s hs => by cases hs
  have m1 : ∀ s ∈ [E], s.2.2.length = h := fun s hs => by rw [List.mem_singleton.1 hs]; exact hz
  have m2 : ∀ s ∈ [E, O], s.2.2.length = h := fun s hs => by
    rcases List.mem_cons.1 hs with h1 | h1
    · rw [h1]; exact hz
    · rw [List.mem_singleton.1 h1]; exact hz2
  have go : ∀ R, turn_Orbit.l0 (k + 9) (([] : List TM).map mkP) [] [0, 1, 2, 3, 4, 5, 6, 7] (([0, 1, 2, 3, 4, 5, 6, 7] : List Int).length : Int) ((0 : Nat) : Int) 1 (h : Int) (zs h) = some (R, whT h) → turn_Orbit.f (k + 9) 1 (h : Int) (zs h) [0, 1, 2, 3, 4, 5, 6, 7] = some (R, whT h) := fun R e => by
    unfold turn_Orbit.f
    exact e
  have s0 := orb_new h hh [0, 1, 2, 3, 4, 5, 6, 7] [] [] 0 0 (k + 8) (by decide) (by decide) rfl (by omega) (by omega) (by decide) (by decide) m0 (evE 0 rfl).2 (by rw [(evE 0 rfl).1]; exact hz)
  rw [(evE 0 rfl).1, if_pos f0] at s0
  by_cases c : h ≤ 4096
  · have hwh : whT h = [0, 1, 0, 1, 0, 1, 0, 1] := by unfold whT; rw [if_pos c]
    have od : ∀ g, g % 2 = 1 → tallT h g = O ∧ tallE h g = 0 := fun g c' => ⟨by unfold tallT; rw [if_neg (by omega), if_pos c, hO], by unfold tallE; rw [if_neg (by omega)]⟩
    have s1 := orb_new h hh [0, 1, 2, 3, 4, 5, 6, 7] [E] [0] 1 1 (k + 7) (by decide) (by decide) rfl (by omega) (by omega) (by show 1 ≤ 100; decide) (by decide) m1 (od 1 rfl).2 (by rw [(od 1 rfl).1]; exact hz2)
    rw [(od 1 rfl).1, if_pos f2] at s1
    have even := fun (i g k : Nat) (wh : List Int) (hi : i < 8) (hr : rd [0, 1, 2, 3, 4, 5, 6, 7] (i : Int) = (g : Int)) (hg : g < 8) (hc : g % 2 = 0) (hk : 4300 ≤ k) (hw : wh.length ≤ 100) => orb_new h hh [0, 1, 2, 3, 4, 5, 6, 7] [E, O] wh i g k hi (by decide) hr hg hk (by show 2 ≤ 100; decide) hw m2 (evE g hc).2 (by rw [(evE g hc).1]; exact hz)
    have odd := fun (i g k : Nat) (wh : List Int) (hi : i < 8) (hr : rd [0, 1, 2, 3, 4, 5, 6, 7] (i : Int) = (g : Int)) (hg : g < 8) (hc : g % 2 = 1) (hk : 4300 ≤ k) (hw : wh.length ≤ 100) => orb_new h hh [0, 1, 2, 3, 4, 5, 6, 7] [E, O] wh i g k hi (by decide) hr hg hk (by show 2 ≤ 100; decide) hw m2 (od g hc).2 (by rw [(od g hc).1]; exact hz2)
    have e2 := even 2 2 (k + 6) [0, 1] (by decide) rfl (by omega) rfl (by omega) (by decide)
    have e3 := odd 3 3 (k + 5) [0, 1, 0] (by decide) rfl (by omega) rfl (by omega) (by decide)
    have e4 := even 4 4 (k + 4) [0, 1, 0, 1] (by decide) rfl (by omega) rfl (by omega) (by decide)
    have e5 := odd 5 5 (k + 3) [0, 1, 0, 1, 0] (by decide) rfl (by omega) rfl (by omega) (by decide)
    have e6 := even 6 6 (k + 2) [0, 1, 0, 1, 0, 1] (by decide) rfl (by omega) rfl (by omega) (by decide)
    have e7 := odd 7 7 (k + 1) [0, 1, 0, 1, 0, 1, 0] (by decide) rfl (by omega) rfl (by omega) (by decide)
    rw [(evE 2 rfl).1, f3, if_neg (by decide)] at e2
    rw [(od 3 rfl).1, f4, if_neg (by decide)] at e3
    rw [(evE 4 rfl).1, f3, if_neg (by decide)] at e4
    rw [(od 5 rfl).1, f4, if_neg (by decide)] at e5
    rw [(evE 6 rfl).1, f3, if_neg (by decide)] at e6
    rw [(od 7 rfl).1, f4, if_neg (by decide)] at e7
    refine ⟨[E, O].map mkP, go _ ?_⟩
    rw [hwh]
    refine s0.trans (s1.trans (e2.trans (e3.trans (e4.trans (e5.trans (e6.trans (e7.trans ?_)))))))
    exact orb_end h [0, 1, 2, 3, 4, 5, 6, 7] _ _ k
  · have hwh : whT h = [0, -1, 0, -1, 0, -1, 0, -1] := by unfold whT; rw [if_neg c]
    have od : ∀ g, g % 2 = 1 → tallE h g ≠ 0 := fun g c' => by unfold tallE; rw [if_pos (by omega)]; decide
    have even := fun (i g k : Nat) (wh : List Int) (hi : i < 8) (hr : rd [0, 1, 2, 3, 4, 5, 6, 7] (i : Int) = (g : Int)) (hg : g < 8) (hc : g % 2 = 0) (hk : 4300 ≤ k) (hw : wh.length ≤ 100) => orb_new h hh [0, 1, 2, 3, 4, 5, 6, 7] [E] wh i g k hi (by decide) hr hg hk (by show 1 ≤ 100; decide) hw m1 (evE g hc).2 (by rw [(evE g hc).1]; exact hz)
    have odd := fun (i g k : Nat) (wh : List Int) (hi : i < 8) (hr : rd [0, 1, 2, 3, 4, 5, 6, 7] (i : Int) = (g : Int)) (hg : g < 8) (hc : g % 2 = 1) (hk : 4300 ≤ k) (hw : wh.length ≤ 100) => orb_err h hh [0, 1, 2, 3, 4, 5, 6, 7] [E] wh i g k hi (by decide) hr hg hk hw (od g hc)
    have e1 := odd 1 1 (k + 7) [0] (by decide) rfl (by omega) rfl (by omega) (by decide)
    have e2 := even 2 2 (k + 6) [0, -1] (by decide) rfl (by omega) rfl (by omega) (by decide)
    have e3 := odd 3 3 (k + 5) [0, -1, 0] (by decide) rfl (by omega) rfl (by omega) (by decide)
    have e4 := even 4 4 (k + 4) [0, -1, 0, -1] (by decide) rfl (by omega) rfl (by omega) (by decide)
    have e5 := odd 5 5 (k + 3) [0, -1, 0, -1, 0] (by decide) rfl (by omega) rfl (by omega) (by decide)
    have e6 := even 6 6 (k + 2) [0, -1, 0, -1, 0, -1] (by decide) rfl (by omega) rfl (by omega) (by decide)
    have e7 := odd 7 7 (k + 1) [0, -1, 0, -1, 0, -1, 0] (by decide) rfl (by omega) rfl (by omega) (by decide)
    rw [(evE 2 rfl).1, f1, if_neg (by decide)] at e2
    rw [(evE 4 rfl).1, f1, if_neg (by decide)] at e4
    rw [(evE 6 rfl).1, f1, if_neg (by decide)] at e6
    refine ⟨[E].map mkP, go _ ?_⟩
    rw [hwh]
    refine s0.trans (e1.trans (e2.trans (e3.trans (e4.trans (e5.trans (e6.trans (e7.trans ?_)))))))
    exact orb_end h [0, 1, 2, 3, 4, 5, 6, 7] _ _ k
theorem wh_rd (h g : Nat) (hg : g < 8) : rd (whT h) (g : Int) = if g % 2 = 1 ∧ 4096 < h then -1 else ((g % 2 : Nat) : Int) := by
  unfold whT
  by_cases c : h ≤ 4096
  · rw [if_pos c, if_neg (by omega)]
    rcases turn8 hg with rfl | rfl | rfl | rfl | rfl | rfl | rfl | rfl <;> rfl
  · rw [if_neg c]
    rcases turn8 hg with rfl | rfl | rfl | rfl | rfl | rfl | rfl | rfl
    all_goals (first | rw [if_neg (by omega)] | rw [if_pos (by omega)])
    all_goals rfl
theorem wh_len (h : Nat) : (whT h).length = 8 := by unfold whT; split <;> rfl
theorem tall_go (h : Nat) (hh : 4090 ≤ h ∧ h ≤ 4103) : ∀ (d g k : Nat), g + d = 8 → 4400 + 2 * d < k → chequerlaw04_TurnTall.l0 k (h : Int) (whT h) (g : Int) 1 (h : Int) (zs h) = some true := by
  intro d
  induction d with
  | zero =>
    intro g k hd hk
    obtain ⟨k, rfl⟩ : ∃ m, k = m + 1 := ⟨k - 1, by omega⟩
    obtain rfl : g = 8 := by omega
    rw [chequerlaw04_TurnTall.l0, if_neg (by decide), lives04 k (by omega)]
    rfl
  | succ d ih =>
    intro g k hd hk
    obtain ⟨k, rfl⟩ : ∃ m, k = m + 2 := ⟨k - 2, by omega⟩
    have hg : g < 8 := by omega
    have hn := ih (g + 1) k (by omega) (by omega)
    have hwr := wh_rd h g hg
    have hwl := wh_len h
    have hm : Int.tmod (g : Int) 2 = ((g % 2 : Nat) : Int) := Int.tmod_eq_emod_of_nonneg (by omega)
    have w1 : wrap64 ((g : Int) + 1) = ((g + 1 : Nat) : Int) := by rw [tw _ (by omega) (by omega)]; push_cast; rfl
    rw [chequerlaw04_TurnTall.l0, if_pos (by clear w1; omega), lay_tall g h (k + 1) hg hh (by clear w1; omega), Option.bind_some, hm]
    dsimp only
    by_cases c : g % 2 = 1
    · rw [if_pos (by clear w1; omega)]
      by_cases c2 : 4096 < h
      · rw [if_pos ⟨c, c2⟩] at hwr
        rw [decide_eq_true (by clear w1; omega), chequerlaw04_TurnTall.j1, if_pos rfl, hwr, w1]
        clear w1
        rw [tallT_no h g c c2, tallE_no h g ⟨c, c2⟩]
        dsimp only
        rw [List.length_nil, if_pos rfl, if_pos rfl, if_pos (by omega), if_pos (by omega), if_pos (by omega), if_pos rfl]
        exact hn
      · rw [if_neg (fun x => c2 x.2)] at hwr
        rw [decide_eq_false (by clear w1; omega), chequerlaw04_TurnTall.j1, if_neg (by decide), hwr, w1, hm]
        clear w1
        rw [tallT_odd h g c (by omega), tallE_ok h g (by omega)]
        dsimp only
        rw [if_pos (by omega), if_pos rfl, if_pos rfl, if_pos (by rw [zs_len]), if_pos (by omega), if_pos (by omega), if_pos rfl]
        exact hn
    · rw [if_neg (fun x => c x.1)] at hwr
      rw [if_neg (by clear w1; omega), chequerlaw04_TurnTall.j1, if_neg (by decide), hwr, w1, hm]
      clear w1
      rw [tallT_even h g (by omega), tallE_ok h g (by omega)]
      dsimp only
      rw [if_neg (by omega), if_pos rfl, if_pos rfl, if_pos (by rw [zs_len]), if_pos (by omega), if_pos (by omega), if_pos rfl]
      exact hn
theorem TurnTall : chequerlaw04_TurnTall.Pure := by
  intro n hn
  obtain ⟨n0, n1⟩ := wf_i64 hn
  obtain ⟨a0, a1⟩ := aroundZ_range n 14 (by omega)
  obtain ⟨h, hh⟩ : ∃ h : Nat, 4090 + aroundZ n 14 = (h : Int) := ⟨(4090 + aroundZ n 14).toNat, by omega⟩
  have hb : 4090 ≤ h ∧ h ≤ 4103 := by omega
  have w1 : wrap64 (4090 + aroundZ n 14) = (h : Int) := by rw [hh]; exact tw _ (by omega) (by omega)
  obtain ⟨R, hR⟩ := orb_tall h 60000 hb (by omega)
  refine ⟨60000, ?_⟩
  unfold chequerlaw04_TurnTall.f
  rw [around_is n 14 n0 n1 (by omega), Option.bind_some, w1]
  clear w1
  rw [if_pos (by omega), if_pos (by omega), Int.toNat_natCast, Option.bind_some]
  show ((turn_Orbit.f 60000 1 (h : Int) (zs h) [0, 1, 2, 3, 4, 5, 6, 7]).bind _) = _
  rw [hR, Option.bind_some, if_pos (by rw [wh_len]; rfl)]
  exact tall_go h hb 8 0 60000 (by omega) (by omega)
end Go.Proofs.Ytehjnekljodmgaa.Pure
