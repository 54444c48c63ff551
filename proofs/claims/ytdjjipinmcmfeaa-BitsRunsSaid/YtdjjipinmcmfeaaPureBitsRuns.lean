/- Runs are the document's, and unrun as they were: for any numbers. No condition. -/
import Derived.Test.YtdjjipinmcmfeaaLAround
import Derived.Test.YtdjjipinmcmfeaaLLives07
import Derived.Test.YtdjjipinmcmfeaaLOnes
import Derived.Test.YtdjjipinmcmfeaaLRuns
import Derived.Test.YtdjjipinmcmfeaaLSame
import Derived.Test.YtdjjipinmcmfeaaQ12
namespace Go.Proofs.Ytdjjipinmcmfeaa.Pure
open Go.RowKit Go.Proofs.Ytdjjipinmcmfeaa.Q Go.Proofs.YtdjjipinmcmfeaaW.PrintWords Go.Proofs.YtdjjipinmcmfeaaW.PrintLast
theorem mn_take (x : List Int) (m : Int) (hm : 0 ≤ m) : 0 ≤ mn (x.length : Int) m ∧ mn (x.length : Int) m ≤ (x.length : Int) ∧ mn (x.length : Int) m ≤ m := by
  unfold mn
  split <;> omega
theorem runs_j1 (x1 own raw near : List Int) (k : Nat) (hk : 1000010 ≤ k) (ho : ∀ x ∈ own, x = 0 ∨ x = 1) (hol : own.length ≤ 60) (hr : raw.length ≤ 60) (hn : near.length ≤ 9) :
    chequerlaw07_BitsRuns.j1 k x1 own raw (runsF false 0 own) near = some true := by
  obtain ⟨k, rfl⟩ : ∃ m, k = m + 1 := ⟨k - 1, by omega⟩
  obtain ⟨m0, m1, m2⟩ := mn_take x1 9 (by omega)
  have hfar : (x1.take (mn (x1.length : Int) 9).toNat).length ≤ 9 := by rw [List.length_take]; omega
  have l1 := runsF_len false 0 own
  have l2 := runsF_len false 0 raw
  have back := unrun_runs own false 0 0 [] ho rfl (by simp; omega)
  have u1 := unrunF_len near 0 [] (by simp)
  rw [List.replicate_zero, List.append_nil, List.nil_append] at back
  rw [chequerlaw07_BitsRuns.j1, if_pos m0, if_pos m1]
  generalize x1.take (mn (x1.length : Int) 9).toNat = far at *
  have u2 := unrunF_len far 0 [] (by simp)
  rw [refruns_is own (by omega) k (by omega), Option.bind_some, same_is _ _ (by omega) k (by omega), Option.bind_some, if_pos (decide_eq_true rfl), runs_is raw (by omega) k (by omega), Option.bind_some, refruns_is raw (by omega) k (by omega), Option.bind_some, same_is _ _ (by omega) k (by omega), Option.bind_some, if_pos (decide_eq_true rfl),
    unrun_is _ (by omega) k (by omega), Option.bind_some, back, same_is _ _ (by omega) k (by omega), Option.bind_some, if_pos (decide_eq_true rfl), unrun_is near (by omega) k (by omega), Option.bind_some, refunrun_is near (by omega) k (by omega), Option.bind_some, same_is _ _ (by omega) k (by omega), Option.bind_some, if_pos (decide_eq_true rfl),
    unrun_is far (by omega) k (by omega), Option.bind_some, refunrun_is far (by omega) k (by omega), Option.bind_some, same_is _ _ (by omega) k (by omega), Option.bind_some, if_pos (decide_eq_true rfl), lives07 k (by omega), Option.bind_some]
theorem runs_near (x1 own raw : List Int) (ho : ∀ x ∈ own, x = 0 ∨ x = 1) (hol : own.length ≤ 60) (hr : raw.length ≤ 60) (hw : ∀ x ∈ x1, -9223372036854775808 ≤ x ∧ x ≤ 9223372036854775807) :
    ∀ (d i k : Nat) (near : List Int), 9 - i ≤ d → near.length = i → i ≤ 9 → 1000020 + d ≤ k → chequerlaw07_BitsRuns.l0 k x1 own raw (runsF false 0 own) near (i : Int) = some true := by
  intro d
  induction d with
  | zero =>
    intro i k near hd hl hi hk
    obtain ⟨k, rfl⟩ : ∃ m, k = m + 1 := ⟨k - 1, by omega⟩
    rw [chequerlaw07_BitsRuns.l0]
    by_cases h : (i : Int) < (x1.length : Int)
    · rw [if_pos h, if_neg (by omega)]
      exact runs_j1 x1 own raw near k (by omega) ho hol hr (by omega)
    · rw [if_neg h]
      exact runs_j1 x1 own raw near k (by omega) ho hol hr (by omega)
  | succ d ih =>
    intro i k near hd hl hi hk
    obtain ⟨k, rfl⟩ : ∃ m, k = m + 1 := ⟨k - 1, by omega⟩
    rw [chequerlaw07_BitsRuns.l0]
    by_cases h : (i : Int) < (x1.length : Int)
    · rw [if_pos h]
      by_cases h9 : (i : Int) < 9
      · have hx : -9223372036854775808 ≤ rd x1 (i : Int) ∧ rd x1 (i : Int) ≤ 9223372036854775807 := by
          unfold rd
          rw [Int.toNat_natCast, List.getD_eq_getElem?_getD, List.getElem?_eq_getElem (show i < x1.length by omega)]
          exact hw _ (List.getElem_mem _)
        have w1 : wrap64 ((i : Int) + 1) = ((i + 1 : Nat) : Int) := (wzr _ (by omega) (by omega)).trans (by simp)
        rw [if_pos h9, if_pos (by omega), around_is _ 20 hx.1 hx.2 (by omega), Option.bind_some, if_pos (by omega), w1]
        exact ih (i + 1) k _ (by omega) (by simp; omega) (by omega) (by omega)
      · rw [if_neg h9]
        exact runs_j1 x1 own raw near k (by omega) ho hol hr (by omega)
    · rw [if_neg h]
      exact runs_j1 x1 own raw near k (by omega) ho hol hr (by omega)
theorem BitsRuns : chequerlaw07_BitsRuns.Pure := by
  intro l0 l1 h0 h0' w0 h1 h1' w1
  refine ⟨2000000, ?_⟩
  unfold chequerlaw07_BitsRuns.f
  obtain ⟨m0, m1, m2⟩ := mn_take l0 60 (by omega)
  have ho := onesL_01 (l0.take 60)
  have hol := onesL_len (l0.take 60)
  rw [show (60 : Int) = ((60 : Nat) : Int) from rfl, ones_is l0 60 (by omega) _ (by omega), Option.bind_some, show ((60 : Nat) : Int) = 60 from rfl, if_pos m0, if_pos m1]
  have hl : (onesL (l0.take 60)).length ≤ 60 := by rw [hol, List.length_take]; omega
  have hr : (l0.take (mn (l0.length : Int) 60).toNat).length ≤ 60 := by rw [List.length_take]; omega
  rw [runs_is _ (by omega) _ (by omega), Option.bind_some]
  exact runs_near l1 _ _ ho hl hr (fun x hx => wf_i64 (w1 x hx)) 9 0 _ [] (by omega) rfl (by omega) (by omega)
end Go.Proofs.Ytdjjipinmcmfeaa.Pure
