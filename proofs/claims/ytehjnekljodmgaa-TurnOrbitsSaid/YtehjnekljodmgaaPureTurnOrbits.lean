/- All ways to lay a matrix that are not the same, and which is of which turn, are the document's: for any matrix, any numbers. No condition. -/
import Derived.Test.YtehjnekljodmgaaLAround
import Derived.Test.YtehjnekljodmgaaLLay
import Derived.Test.YtehjnekljodmgaaLLives04
import Derived.Test.YtehjnekljodmgaaLOrbit
import Derived.Test.YtehjnekljodmgaaLRefLay
import Derived.Test.YtehjnekljodmgaaLSame
import Derived.Test.YtehjnekljodmgaaLTab
import Derived.Test.YtehjnekljodmgaaQ13
import Derived.Test.YtehjnekljodmgaaQ14
import Derived.Test.YtehjnekljodmgaaQ16
import Derived.Test.YtehjnekljodmgaaQ3
import Derived.Test.YtehjnekljodmgaaQ6
namespace Go.Proofs.Ytehjnekljodmgaa.Pure
open Go.RowKit Go.Proofs.Ytehjnekljodmgaa.Q Go.Proofs.YtehjnekljodmgaaW.PrintWords Go.Proofs.YtehjnekljodmgaaW.PrintLast
set_option linter.unusedVariables false
theorem mats (w h : Nat) (hw : 1 ≤ w ∧ w ≤ 4) (hh : 1 ≤ h ∧ h ≤ 4) (f : Nat → Nat → Int) (g : Nat) : (tab (layW g w h) (layH g w h) (layF g w h f)).length = h * w := by
  rw [tab_len]
  unfold layH layW
  split
  · rfl
  · exact Nat.mul_comm ..
theorem findT_lt (x : TM) : ∀ (l : List TM) (i : Nat), findT x i l < (i : Int) + l.length
  | [], i => by rw [findT]; simp; omega
  | s :: r, i => by
    have := findT_lt x r (i + 1)
    rw [findT, List.length_cons]
    split <;> (push_cast at *; omega)
theorem orbS_len (M : Nat → TM) : ∀ (l : List Int) (out : List TM) (wh : List Int), (orbS M l out wh).1.length ≤ out.length + l.length ∧ (orbS M l out wh).2.length = wh.length + l.length
  | [], out, wh => ⟨Nat.le_refl _, rfl⟩
  | g :: r, out, wh => by
    rw [orbS, List.length_cons]
    split
    · split
      · have := orbS_len M r (out ++ [M g.toNat]) (wh ++ [(out.length : Int)])
        simp only [List.length_append, List.length_cons, List.length_nil] at this
        omega
      · have := orbS_len M r out (wh ++ [findT (M g.toNat) 0 out])
        simp only [List.length_append, List.length_cons, List.length_nil] at this
        omega
    · have := orbS_len M r out (wh ++ [-1])
      simp only [List.length_append, List.length_cons, List.length_nil] at this
      omega
theorem orbS_mem (M : Nat → TM) (N : Nat) (hM : ∀ g, g < 8 → (M g).2.2.length = N) : ∀ (l : List Int) (out : List TM) (wh : List Int), (∀ s ∈ out, s.2.2.length = N) → ∀ s ∈ (orbS M l out wh).1, s.2.2.length = N
  | [], out, wh, h => h
  | g :: r, out, wh, h => by
    rw [orbS]
    split
    · rename_i hg
      split
      · refine orbS_mem M N hM r _ _ (fun s hs => ?_)
        rcases List.mem_append.1 hs with h1 | h1
        · exact h s h1
        · rw [List.mem_singleton.1 h1]; exact hM _ (by omega)
      · exact orbS_mem M N hM r _ _ h
    · exact orbS_mem M N hM r _ _ h
theorem rd_mkP (l : List TM) (i : Nat) (hi : i < l.length) : rd_T26 (l.map mkP) (i : Int) = mkP l[i] := by
  unfold rd_T26
  rw [Int.toNat_natCast, List.getD_eq_getElem?_getD, List.getElem?_map, List.getElem?_eq_getElem hi]
  rfl
theorem same_all (A : List (List Int)) (i : Int) (b0 b1 : Int) (b2 : List Int) (R : List TM) (hR : R.length ≤ 100) (hs : ∀ s ∈ R, s.2.2.length ≤ 100) (F : Nat) (hF : 200 ≤ F) (hn : ∀ k, F ≤ k → chequerlaw04_TurnOrbits.l0 k A (wrap64 (i + 1)) b0 b1 b2 = some true) :
    ∀ (d j k : Nat), j + d = R.length → F + d < k → chequerlaw04_TurnOrbits.l1 k A i (R.map mkP) (R.map mkR) (j : Int) b0 b1 b2 = some true := by
  have l1 : (R.map mkP).length = R.length := List.length_map ..
  have l2 : (R.map mkR).length = R.length := List.length_map ..
  intro d
  induction d with
  | zero =>
    intro j k hd hk
    obtain ⟨k, rfl⟩ : ∃ m, k = m + 1 := ⟨k - 1, by omega⟩
    rw [chequerlaw04_TurnOrbits.l1, if_neg (by omega)]
    exact hn k (by omega)
  | succ d ih =>
    intro j k hd hk
    obtain ⟨k, rfl⟩ : ∃ m, k = m + 1 := ⟨k - 1, by omega⟩
    have hj : j < R.length := by omega
    have hsj := hs R[j] (List.getElem_mem hj)
    rw [chequerlaw04_TurnOrbits.l1, if_pos (by omega), if_pos (by omega), rd_mkP R j hj, rd_mkR R j hj]
    unfold chequerlaw04_as.f
    rw [Option.bind_some, if_pos (by omega)]
    show (chequerref03_Same.f k R[j].1 R[j].2.1 R[j].2.2 R[j].1 R[j].2.1 R[j].2.2).bind _ = _
    rw [refsame_is k R[j] R[j] (by omega) (by omega), decide_eq_true rfl, Option.bind_some, if_pos rfl, tw ((j : Int) + 1) (by omega) (by omega)]
    exact ih (j + 1) k (by omega) (by omega)
theorem one_orbit (w h : Nat) (hw : 1 ≤ w ∧ w ≤ 4) (hh : 1 ≤ h ∧ h ≤ 4) (f : Nat → Nat → Int) (A : List (List Int)) (i : Nat) (hA : A.length = 2) (hi : i < 2) (T : List Int) (hT : rd_L6 A (i : Int) = T) (hl : T.length ≤ 9) (F k : Nat) (hF : 1000 ≤ F) (hk : F + 20000 ≤ k)
    (hn : ∀ k, F ≤ k → chequerlaw04_TurnOrbits.l0 k A ((i + 1 : Nat) : Int) (w : Int) (h : Int) (tab w h f) = some true) : chequerlaw04_TurnOrbits.l0 k A (i : Int) (w : Int) (h : Int) (tab w h f) = some true := by
  obtain ⟨k, rfl⟩ : ∃ m, k = m + 2 := ⟨k - 2, by omega⟩
  have hw' : 1 ≤ w ∧ w ≤ 64 := by omega
  have hh' : 1 ≤ h ∧ h ≤ 64 := by omega
  have hm : h * w ≤ 4 * 4 := Nat.mul_le_mul hh.2 hw.2
  obtain ⟨M, hM⟩ : ∃ M : Nat → TM, M = fun g => ((layW g w h : Int), (layH g w h : Int), tab (layW g w h) (layH g w h) (layF g w h f)) := ⟨_, rfl⟩
  have hML : ∀ g, g < 8 → (M g).2.2.length = h * w := fun g _ => by rw [hM]; exact mats w h hw hh f g
  have p1 := orbit_go M (h * w) (by omega) hML (w : Int) (h : Int) (tab w h f) (fun g k hg hk => by rw [hM]; exact turnlay_is g w h k hg hw' hh' f hk) (fun g k hg => turnlay_no k _ _ _ g hg) T [] [] [] (k + 1) (by simp; omega) (Nat.le_refl _) rfl (fun s hs => by cases hs) (by omega)
  have p2 := reforb_go M (h * w) (by omega) hML (w : Int) (h : Int) (tab w h f) (fun g k hg hk => by rw [hM]; exact reflay_is g w h k hg hw' hh' f hk) (fun g k hg => reflay_no k _ _ _ g hg) T [] [] [] (k + 1) (by simp; omega) (Nat.le_refl _) rfl (fun s hs => by cases hs) (by omega)
  have o1 := orbS_len M T [] []
  have o2 := orbS_mem M (h * w) hML T [] [] (fun s hs => by cases hs)
  rw [List.nil_append] at p1 p2
  clear hM
  generalize orbS M T [] [] = R at *
  obtain ⟨R1, R2⟩ := R
  dsimp only at p1 p2 o1 o2
  simp only [List.length_nil, Nat.zero_add] at o1
  have w1 : wrap64 ((i : Int) + 1) = ((i + 1 : Nat) : Int) := by rw [tw _ (by omega) (by omega)]; push_cast; rfl
  have go := same_all A (i : Int) (w : Int) (h : Int) (tab w h f) R1 (by clear w1; omega) (fun s hs => by rw [o2 s hs]; clear w1; omega) F (by clear w1; omega) (by rw [w1]; exact hn) R1.length 0 k (by clear w1; omega) (by clear w1; omega)
  clear w1
  rw [chequerlaw04_TurnOrbits.l0, if_pos (by omega)]
  unfold chequerlaw04_of.f
  rw [Option.bind_some, if_pos (by omega), if_pos (by omega), hT]
  dsimp only
  unfold turn_Orbit.f chequerref04_Orbit.f
  rw [show (0 : Int) = ((([] : List Int).length : Nat) : Int) from rfl, show (([] : List S26)) = ([] : List TM).map mkP from rfl, p1, Option.bind_some, show (([] : List S24)) = ([] : List TM).map mkR from rfl, p2, Option.bind_some]
  dsimp only
  rw [if_pos (by simp), same_few R2 R2 rfl (by omega) (k + 1) (by omega), Option.bind_some, decide_eq_true rfl, chequerlaw04_TurnOrbits.j1, if_neg (by decide)]
  exact go
theorem TurnOrbits : chequerlaw04_TurnOrbits.Pure := by
  intro m0 m1 l T h0 h1
  intros
  obtain ⟨w, h, f, hw, hh, hG⟩ := good_is m0 m1 l 4 (by omega) (wf_i64 h0) (wf_i64 h1)
  refine ⟨100000, ?_⟩
  have e1 := hG 100000 (by omega)
  rw [show ((4 : Nat) : Int) = 4 from rfl] at e1
  have hmn : 0 ≤ mn (T.length : Int) 9 ∧ mn (T.length : Int) 9 ≤ (T.length : Int) ∧ (mn (T.length : Int) 9).toNat ≤ 9 := by unfold mn; split <;> omega
  unfold chequerlaw04_TurnOrbits.f
  rw [e1, Option.bind_some, if_pos hmn.1, if_pos hmn.2.1]
  dsimp only
  have hl : (T.take (mn (T.length : Int) 9).toNat).length ≤ 9 := by rw [List.length_take]; omega
  generalize T.take (mn (T.length : Int) 9).toNat = U at *
  have last : ∀ (A : List (List Int)) (k : Nat), 1000 ≤ k → chequerlaw04_TurnOrbits.l0 k A ((1 + 1 : Nat) : Int) (w : Int) (h : Int) (tab w h f) = some true := by
    intro A k hk
    obtain ⟨k, rfl⟩ : ∃ m, k = m + 1 := ⟨k - 1, by omega⟩
    rw [chequerlaw04_TurnOrbits.l0, if_neg (by decide), lives04 k (by omega)]
    rfl
  generalize hA : ([U, ([0, 1, 2, 3, 4, 5, 6, 7] : List Int)] : List (List Int)) = A
  have hAl : A.length = 2 := by rw [← hA]; rfl
  have r0 : rd_L6 A ((0 : Nat) : Int) = U := by rw [← hA]; rfl
  have r1 : rd_L6 A ((1 : Nat) : Int) = [0, 1, 2, 3, 4, 5, 6, 7] := by rw [← hA]; rfl
  have s1 := fun k hk => one_orbit w h hw hh f A 1 hAl (by omega) _ r1 (by decide) 1000 k (by omega) hk (fun k hk => last A k hk)
  exact one_orbit w h hw hh f A 0 hAl (by omega) U r0 hl 30000 100000 (by omega) (by omega) (fun k hk => s1 k (by omega))
end Go.Proofs.Ytehjnekljodmgaa.Pure
