/- A matrix that is laid is the document's, or refused; each number stood where it is told: for any matrix, any number. No condition. -/
import Derived.Test.YtehjnekljodmgaaLAround
import Derived.Test.YtehjnekljodmgaaLLay
import Derived.Test.YtehjnekljodmgaaLLives04
import Derived.Test.YtehjnekljodmgaaLTab
import Derived.Test.YtehjnekljodmgaaQ3
import Derived.Test.YtehjnekljodmgaaQ6
import Derived.Test.YtehjnekljodmgaaQ7
namespace Go.Proofs.Ytehjnekljodmgaa.Pure
open Go.RowKit Go.Proofs.Ytehjnekljodmgaa.Q Go.Proofs.YtehjnekljodmgaaW.PrintWords Go.Proofs.YtehjnekljodmgaaW.PrintLast
theorem name_ok : ∀ i : Fin 8, ((turn_Name.f ((i : Nat) : Int)).map (fun b => b.toList != ([] : List UInt8))) = some true := by decide +kernel
theorem name_in (g : Nat) (hg : g < 8) : ∃ b, turn_Name.f (g : Int) = some b ∧ (b.toList != ([] : List UInt8)) = true := Option.map_eq_some_iff.1 (name_ok ⟨g, hg⟩)
theorem name_no (g : Int) (hg : ¬ (0 ≤ g ∧ g ≤ 7)) : turn_Name.f g = some (⟨#[]⟩ : ByteArray) := by
  unfold turn_Name.f
  rw [tmay_no g hg, Option.bind_some, if_neg (by decide)]
theorem lays_places (g w h : Nat) (hg : g < 8) (hw : 1 ≤ w ∧ w ≤ 64) (hh : 1 ≤ h ∧ h ≤ 64) (f : Nat → Nat → Int) (n x6 : Int) (K : Nat) (hr : ∀ q, K ≤ q → chequerlaw04_TurnLays.l0 q n (wrap64 (x6 + 1)) (w : Int) (h : Int) (tab w h f) = some true) :
    ∀ (d i k : Nat), i + d = layH g w h * layW g w h → K + d < k → chequerlaw04_TurnLays.l1 k n x6 (g : Int) (i : Int) (w : Int) (h : Int) (tab w h f) (layW g w h : Int) (layH g w h : Int) (tab (layW g w h) (layH g w h) (layF g w h f)) = some true := by
  obtain ⟨sw, sh⟩ := lay_small (g := g) hw hh
  have hm := mul_step (layH g w h) (layW g w h) 0 sw.2 sh.2
  intro d
  induction d with
  | zero =>
    intro i k hd hk
    obtain ⟨k, rfl⟩ : ∃ m, k = m + 1 := ⟨k - 1, by omega⟩
    rw [chequerlaw04_TurnLays.l1, if_neg (by rw [tab_len]; omega)]
    exact hr k (by omega)
  | succ d ih =>
    intro i k hd hk
    obtain ⟨k, rfl⟩ : ∃ m, k = m + 1 := ⟨k - 1, by omega⟩
    have hi : i < layH g w h * layW g w h := by omega
    obtain ⟨e1, e2, e3⟩ := tab_div (layW g w h) (layH g w h) i hi
    have hle : i / layW g w h ≤ i := Nat.div_le_self _ _
    obtain ⟨e4, e5⟩ := lay_in hg e1 e2
    rw [chequerlaw04_TurnLays.l1, if_pos (by rw [tab_len]; omega), if_neg (by omega), Int.tmod_eq_emod_of_nonneg (by omega), Int.tdiv_eq_ediv_of_nonneg (by omega), show ((i : Int) % (layW g w h : Int)) = ((i % layW g w h : Nat) : Int) from rfl, show ((i : Int) / (layW g w h : Int)) = ((i / layW g w h : Nat) : Int) from rfl, twn (i / layW g w h) (Nat.le_trans hle (by omega)), from_is g w h _ _ hg hw hh e1 e2, Option.bind_some]
    dsimp only
    rw [refat_is w h (by omega) (by omega) f _ _ e4 e5, Option.bind_some, if_pos rfl, if_pos (by omega), tab_rdi _ _ _ i hi]
    have hv : (f (layX g w h (i % layW g w h) (i / layW g w h)) (layY g w h (i % layW g w h) (i / layW g w h)), true).fst = layF g w h f (i % layW g w h) (i / layW g w h) := rfl
    rw [if_pos hv, tw ((i : Int) + 1) (by omega) (by omega)]
    exact ih (i + 1) k (by omega) (by omega)
theorem lays_turn (w h : Nat) (hw : 1 ≤ w ∧ w ≤ 64) (hh : 1 ≤ h ∧ h ≤ 64) (f : Nat → Nat → Int) (n x6 x7 : Int) (K : Nat) (hr : ∀ q, K ≤ q → chequerlaw04_TurnLays.l0 q n (wrap64 (x6 + 1)) (w : Int) (h : Int) (tab w h f) = some true) (k : Nat) (hk : K + 5000 ≤ k) :
    chequerlaw04_TurnLays.j1 k n x6 x7 (w : Int) (h : Int) (tab w h f) = some true := by
  obtain ⟨k, rfl⟩ : ∃ m, k = m + 3 := ⟨k - 3, by omega⟩
  by_cases hg : 0 ≤ x7 ∧ x7 ≤ 7
  · obtain ⟨g, rfl⟩ : ∃ g : Nat, x7 = (g : Int) := ⟨x7.toNat, by omega⟩
    have hg8 : g < 8 := by omega
    obtain ⟨sw, sh⟩ := lay_small (g := g) hw hh
    have hm := mul_step (layH g w h) (layW g w h) 0 sw.2 sh.2
    obtain ⟨b, hb1, hb2⟩ := name_in g hg8
    rw [chequerlaw04_TurnLays.j1]
    unfold chequerlaw04_of.f
    rw [Option.bind_some]
    dsimp only
    rw [turnlay_is g w h _ hg8 hw hh f (by omega), Option.bind_some, reflay_is g w h _ hg8 hw hh f (by omega), Option.bind_some, tsize g w h hg8, Option.bind_some]
    dsimp only
    rw [if_pos (by omega), decide_eq_true (by omega), chequerlaw04_TurnLays.j2, if_pos rfl]
    unfold chequerlaw04_as.f
    rw [Option.bind_some]
    dsimp only
    rw [same_self _ _ _ _ (by rw [tab_len]; omega) (by rw [tab_len]; omega), Option.bind_some, if_pos rfl, tmay g hg8, Option.bind_some, if_neg (by decide), if_pos rfl, if_pos rfl, hb1, Option.bind_some, hb2, chequerlaw04_TurnLays.j3, if_neg (by decide)]
    exact lays_places g w h hg8 hw hh f n x6 K hr (layH g w h * layW g w h) 0 k (by omega) (by omega)
  · rw [chequerlaw04_TurnLays.j1]
    unfold chequerlaw04_of.f
    rw [Option.bind_some]
    dsimp only
    rw [turnlay_no _ _ _ _ _ hg, Option.bind_some, reflay_no _ _ _ _ _ hg, Option.bind_some, tsize_no _ _ _ hg, Option.bind_some]
    dsimp only
    have fin : chequerlaw04_TurnLays.j2 (k + 2) n x6 x7 1 1 0 0 false (w : Int) (h : Int) (tab w h f) 0 0 [] 0 0 [] = some true := by
      rw [chequerlaw04_TurnLays.j2, if_pos rfl]
      unfold chequerlaw04_as.f
      rw [Option.bind_some]
      dsimp only
      rw [same_self _ _ _ _ (by decide) (by rw [List.length_nil]; omega), Option.bind_some, if_pos rfl, tmay_no x7 hg, Option.bind_some, if_neg (by decide), if_pos rfl, if_pos rfl, name_no x7 hg, Option.bind_some, show (((⟨#[]⟩ : ByteArray).toList != ([] : List UInt8)) != false) = false from by decide +kernel, chequerlaw04_TurnLays.j3, if_neg (by decide)]
      obtain ⟨k, rfl⟩ : ∃ m, k = m + 1 := ⟨k - 1, by omega⟩
      rw [chequerlaw04_TurnLays.l1, if_neg (by decide)]
      exact hr k (by omega)
    by_cases c : x7 ≥ 0
    · rw [if_pos c, decide_eq_false (by omega)]
      exact fin
    · rw [if_neg c]
      exact fin
theorem lays_rounds (w h : Nat) (hw : 1 ≤ w ∧ w ≤ 64) (hh : 1 ≤ h ∧ h ≤ 64) (f : Nat → Nat → Int) (n : Int) :
    ∀ (d : Nat) (x6 : Int) (k : Nat), x6 + (d : Int) = 8 → d ≤ 9 → d * 6000 + 100 ≤ k → chequerlaw04_TurnLays.l0 k n x6 (w : Int) (h : Int) (tab w h f) = some true := by
  intro d
  induction d with
  | zero =>
    intro x6 k hx hd hk
    obtain ⟨k, rfl⟩ : ∃ m, k = m + 1 := ⟨k - 1, by omega⟩
    rw [chequerlaw04_TurnLays.l0, if_neg (by omega), lives04 k (by omega)]
    rfl
  | succ d ih =>
    intro x6 k hx hd hk
    obtain ⟨k, rfl⟩ : ∃ m, k = m + 1 := ⟨k - 1, by omega⟩
    have w1 : wrap64 (x6 + 1) = x6 + 1 := tw _ (by omega) (by omega)
    have st := fun x7 => lays_turn w h hw hh f n x6 x7 (d * 6000 + 100) (fun q hq => by rw [w1]; exact ih (x6 + 1) q (by omega) (by omega) hq) k (by omega)
    rw [chequerlaw04_TurnLays.l0, if_pos (by omega)]
    by_cases c : x6 < 0
    · rw [if_pos c]
      exact st n
    · rw [if_neg c]
      exact st x6
theorem TurnLays : chequerlaw04_TurnLays.Pure := by
  intro m0 m1 l n h0 h1 hl hx hn
  obtain ⟨w, h, f, hw, hh, hG⟩ := good_is m0 m1 l 6 (by omega) (wf_i64 h0) (wf_i64 h1)
  refine ⟨60000, ?_⟩
  unfold chequerlaw04_TurnLays.f
  have e := hG 60000 (by omega)
  rw [show ((6 : Nat) : Int) = 6 from rfl] at e
  rw [e, Option.bind_some]
  exact lays_rounds w h (by omega) (by omega) f n 9 (-1) 60000 (by omega) (by omega) (by omega)
end Go.Proofs.Ytehjnekljodmgaa.Pure
