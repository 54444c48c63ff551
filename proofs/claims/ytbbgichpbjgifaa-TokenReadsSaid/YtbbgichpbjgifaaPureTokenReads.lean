/- What a reader of numbers tells of each byte, and the number then, is the document's: for any text, any greatest number. No condition. -/
import Derived.Test.YtbbgichpbjgifaaItoken_New
import Derived.Test.YtbbgichpbjgifaaLAround
import Derived.Test.YtbbgichpbjgifaaLLives05
import Derived.Test.YtbbgichpbjgifaaLStep
import Derived.Test.YtbbgichpbjgifaaLToken
import Derived.Test.YtbbgichpbjgifaaQ6
import Derived.Test.YtbbgichpbjgifaaQ7
import Derived.Test.YtbbgichpbjgifaaQ8
namespace Go.Proofs.Ytbbgichpbjgifaa.Pure
open Go.RowKit Go.Proofs.Ytbbgichpbjgifaa.Q Go.Proofs.YtbbgichpbjgifaaW.PrintWords Go.Proofs.YtbbgichpbjgifaaW.PrintLast
theorem value_is (a n m e md l : Int) (b : Bool) (hR : tkR a md l) (hk : tkOk a n m e) : ∃ v f, token_Number_Value.f md m n b l e = some (v, f, md, m, n, b, l, e) ∧ chequerref05_Value.f a n m e = some (v, f) := by
  unfold token_Number_Value.f chequerref05_Value.f
  unfold tkR at hR
  unfold tkOk at hk
  by_cases h : e = 0
  · rw [if_pos (by omega), if_pos h]
    exact ⟨_, _, rfl, rfl⟩
  · rw [if_neg (by omega), if_neg h]
    exact ⟨_, _, rfl, rfl⟩
theorem loop_reads (s : ByteArray) (hs : s.size ≤ 40) (m : Int) (hm : m ≤ 4611686018427387904) :
    ∀ (d i k : Nat), i + d = s.size → 3 * d + 5 ≤ k → ∀ (b : Bool) (md l a n e : Int), tkR a md l → tkOk a n m e → (a ≤ 1 → b = false) → (2 ≤ a ∧ a ≤ 4 → b = true) → chequerlaw05_TokenReads.l0 k s b (i : Int) md m n b l e a n m e = some true := by
  intro d
  induction d with
  | zero =>
    intro i k hd hk b md l a n e hR hO h1 h2
    obtain ⟨k, rfl⟩ : ∃ q, k = q + 1 := ⟨k - 1, by omega⟩
    obtain ⟨v, f, e1, e2⟩ := value_is a n m e md l b hR hO
    rw [chequerlaw05_TokenReads.l0, if_neg (by omega), e1, Option.bind_some, e2, Option.bind_some]
    dsimp only
    rw [if_pos rfl, if_pos rfl, lives05, Option.bind_some]
  | succ d ih =>
    intro i k hd hk b md l a n e hR hO h1 h2
    obtain ⟨k, rfl⟩ : ∃ q, k = q + 4 := ⟨k - 4, by omega⟩
    obtain ⟨c0, c1⟩ := bt_range s (i : Int)
    have hO' := hO
    obtain ⟨ha, hn, hnm, he⟩ := hO'
    have ep := refput_is k a n m e (bt s (i : Int)) ha hn hnm hm c0 c1
    obtain ⟨md', eq, hR'⟩ := put_is a n m e (bt s (i : Int)) md l b hR h1 h2 hn hnm hm c0 c1
    have hO2 := tkS_ok a n m e (bt s (i : Int)) hO
    have hmono : a ≥ 2 → (tkS a n m e (bt s (i : Int))).1 ≥ 2 := by
      intro h
      unfold tkS
      repeat' split
      all_goals (dsimp only; omega)
    have ebl := blank_is (bt s (i : Int)) c0 c1
    have erb := refblank_is (bt s (i : Int))
    generalize tkS a n m e (bt s (i : Int)) = t at *
    generalize hc : bt s (i : Int) = c at *
    rw [chequerlaw05_TokenReads.l0, if_pos (by omega), if_pos (by omega), hc, ep, Option.bind_some]
    dsimp only
    have hj : ∀ b', b' = (b || decide (2 ≤ t.1 ∧ t.1 ≤ 4)) → chequerlaw05_TokenReads.j1 (k + 3) s b' (i : Int) t.2.2.2 md m n b l e t.1 t.2.1 m t.2.2.1 = some true := by
      intro b' hb'
      rw [chequerlaw05_TokenReads.j1, if_pos (by omega), if_pos (by omega), hc, eq, Option.bind_some]
      dsimp only
      rw [if_pos rfl]
      unfold token_Number_Begun.f
      rw [Option.bind_some]
      dsimp only
      rw [← hb', if_neg (by simp), ebl, Option.bind_some, erb, Option.bind_some]
      rw [show (decide (blankP c) != decide (blankP c)) = false from by simp]
      obtain ⟨v, f, e1, e2⟩ := value_is t.1 t.2.1 m t.2.2.1 md' t.2.2.2 b' hR' hO2
      rw [chequerlaw05_TokenReads.j2, if_neg (by decide), e1, Option.bind_some, e2, Option.bind_some]
      dsimp only
      rw [if_pos rfl, if_pos rfl, show wrap64 ((i : Int) + 1) = ((i + 1 : Nat) : Int) from by unfold wrap64; omega]
      refine ih (i + 1) (k + 1) (by omega) (by omega) b' md' _ _ _ _ hR' hO2 (fun h => ?_) (fun h => ?_)
      · rw [hb', h1 (by omega), decide_eq_false (by omega)]
        rfl
      · rw [hb', decide_eq_true h, Bool.or_true]
    by_cases hb : b = true
    · rw [if_pos hb]
      exact hj true (by rw [hb]; rfl)
    · have hb0 : b = false := by cases b <;> simp_all
      rw [if_neg hb]
      by_cases h2' : t.1 ≥ 2
      · rw [if_pos h2']
        exact hj _ (by rw [hb0, Bool.false_or]; exact decide_eq_decide.2 (by omega))
      · rw [if_neg h2']
        exact hj _ (by rw [hb0, Bool.false_or, decide_eq_false (by omega)])
theorem TokenReads : chequerlaw05_TokenReads.Pure := by
  intro a0 a1 h0 h1
  obtain ⟨h1, h1'⟩ := wf_i64 h1
  obtain ⟨m0, m1⟩ := aroundZ_range a1 4611686018427387904 (by omega)
  refine ⟨200, ?_⟩
  unfold chequerlaw05_TokenReads.f
  have hf := few_is a0 40
  rw [show ((40 : Nat) : Int) = 40 from rfl] at hf
  have hz := few_size a0 40
  rw [hf, Option.bind_some, limit_is a1 h1 h1', Option.bind_some]
  generalize (if a0.size > 40 then a0.extract 0 40 else a0) = s at *
  generalize aroundZ a1 4611686018427387904 = m at *
  unfold token_New.f chequerref05_New.f
  rw [Option.bind_some, Option.bind_some]
  exact loop_reads s hz m (by omega) s.size 0 200 (by omega) (by omega) false 0 0 0 0 9 (.inl ⟨rfl, rfl, by omega, by omega⟩) ⟨by omega, by omega, m0, .inl ⟨by omega, rfl⟩⟩ (fun _ => rfl) (fun h => by omega)
end Go.Proofs.Ytbbgichpbjgifaa.Pure
